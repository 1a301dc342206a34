/-
  THE SEAT'S FUNCTIONS, READ (part 0): the code of each as the abstract layer reads it, by program; each tie is a closed fact.
-/
import Derived.KernelRfl
import Derived.Test.YtkjkbpgdpnapfaaChecked
import Derived.Test.YtkjkbpgdpnapfaaMjc
set_option linter.unusedSimpArgs false
set_option linter.unusedVariables false
namespace Go.Proofs.Ytkjkbpgdpnapfaa
open Go Go.Abs
def g2_0 : List G := [⟨(some 0), .xcall 1 [], none⟩]
def d2_0 : Option (List (List Nat)) := none
def c2 : AC := (.reg d2_0 g2_0)
def r2 : List RV := []
def g3_0 : List G := [⟨(some 3), .box (.t 0), none⟩,
  ⟨(some 4), .box (.t 1), none⟩,
  ⟨(some 6), .mv (.c (.bool false)), none⟩]
def d3_0 : Option (List (List Nat)) := none
def g3_1 : List G := [⟨(some 21), .ld (some 7) (.t 3), none⟩,
  ⟨(some 22), .fa 0 0 (.t 4), none⟩,
  ⟨(some 23), .ld (some 6) (.t 22), none⟩,
  ⟨(some 24), .call 12 [(.t 21), (.t 23)], none⟩,
  ⟨(some 20), .mv (.t 24), none⟩,
  ⟨(some 25), .ext (.t 20) 0, none⟩,
  ⟨(some 26), .ext (.t 20) 1, none⟩,
  ⟨(some 7), .mv (.t 25), none⟩,
  ⟨(some 8), .mv (.t 26), none⟩]
def d3_1 : Option (List (List Nat)) := none
def g3_2 : List G := [⟨(some 28), .ld (some 7) (.t 3), none⟩,
  ⟨(some 29), .fa 0 0 (.t 4), none⟩,
  ⟨(some 30), .ld (some 6) (.t 29), none⟩,
  ⟨(some 31), .call 13 [(.t 28), (.t 30)], none⟩,
  ⟨(some 27), .mv (.t 31), none⟩,
  ⟨(some 32), .ext (.t 27) 0, none⟩,
  ⟨(some 33), .ext (.t 27) 1, none⟩,
  ⟨(some 9), .mv (.t 32), none⟩,
  ⟨(some 10), .mv (.t 33), none⟩]
def d3_2 : Option (List (List Nat)) := none
def g3_3 : List G := [⟨(some 35), .ld (some 7) (.t 3), none⟩,
  ⟨(some 36), .fa 0 0 (.t 4), none⟩,
  ⟨(some 37), .ld (some 6) (.t 36), none⟩,
  ⟨(some 38), .fa 1 6 (.t 4), none⟩,
  ⟨(some 39), .ld (some 6) (.t 38), none⟩,
  ⟨(some 40), .fa 2 12 (.t 4), none⟩,
  ⟨(some 41), .ld none (.t 40), none⟩,
  ⟨(some 42), .call 14 [(.t 35), (.t 37), (.t 39), (.t 41)], none⟩,
  ⟨(some 34), .mv (.t 42), none⟩,
  ⟨(some 43), .ext (.t 34) 0, none⟩,
  ⟨(some 44), .ext (.t 34) 1, none⟩,
  ⟨(some 11), .mv (.t 43), none⟩,
  ⟨(some 12), .mv (.t 44), none⟩]
def d3_3 : Option (List (List Nat)) := none
def g3_4 : List G := [⟨(some 46), .ld (some 7) (.t 3), none⟩,
  ⟨(some 47), .ld (some 13) (.t 4), none⟩,
  ⟨(some 48), .call 15 [(.t 46), (.t 47)], none⟩,
  ⟨(some 45), .mv (.t 48), none⟩,
  ⟨(some 49), .ext (.t 45) 0, none⟩,
  ⟨(some 50), .ext (.t 45) 1, none⟩,
  ⟨(some 13), .mv (.t 49), none⟩,
  ⟨(some 14), .mv (.t 50), none⟩]
def d3_4 : Option (List (List Nat)) := none
def g3_5 : List G := [⟨(some 51), .mv (.t 7), none⟩,
  ⟨(some 52), .mv (.t 9), none⟩,
  ⟨(some 53), .call 16 [(.t 51), (.t 52)], none⟩,
  ⟨(some 54), .un .not (.t 53), none⟩,
  ⟨(some 55), .mv (.t 54), none⟩,
  ⟨(some 56), .mv (.t 8), some (55, false)⟩,
  ⟨(some 57), .mv (.t 10), some (55, false)⟩,
  ⟨(some 58), .bin .neq (.t 56) (.t 57), some (55, false)⟩,
  ⟨(some 59), .pick (.t 55) (.c (.bool true)) (.t 58), none⟩,
  ⟨(some 60), .mv (.t 59), none⟩,
  ⟨(some 61), .mv (.t 11), some (60, false)⟩,
  ⟨(some 62), .mv (.t 13), some (60, false)⟩,
  ⟨(some 63), .call 16 [(.t 61), (.t 62)], some (60, false)⟩,
  ⟨(some 64), .un .not (.t 63), some (60, false)⟩,
  ⟨(some 65), .pick (.t 60) (.c (.bool true)) (.t 64), none⟩,
  ⟨(some 66), .mv (.t 65), none⟩,
  ⟨(some 67), .mv (.t 12), some (66, false)⟩,
  ⟨(some 68), .mv (.t 14), some (66, false)⟩,
  ⟨(some 69), .bin .neq (.t 67) (.t 68), some (66, false)⟩,
  ⟨(some 70), .pick (.t 66) (.c (.bool true)) (.t 69), none⟩,
  ⟨(some 71), .mv (.t 70), none⟩,
  ⟨(some 72), .ld (some 7) (.t 3), some (71, false)⟩,
  ⟨(some 73), .fa 0 0 (.t 4), some (71, false)⟩,
  ⟨(some 74), .ld (some 6) (.t 73), some (71, false)⟩,
  ⟨(some 75), .fa 2 12 (.t 4), some (71, false)⟩,
  ⟨(some 76), .ld none (.t 75), some (71, false)⟩,
  ⟨(some 77), .call 17 [(.t 72), (.t 74), (.t 76)], some (71, false)⟩,
  ⟨(some 78), .ld (some 7) (.t 3), some (71, false)⟩,
  ⟨(some 79), .fa 0 0 (.t 4), some (71, false)⟩,
  ⟨(some 80), .ld (some 6) (.t 79), some (71, false)⟩,
  ⟨(some 81), .fa 2 12 (.t 4), some (71, false)⟩,
  ⟨(some 82), .ld none (.t 81), some (71, false)⟩,
  ⟨(some 83), .call 18 [(.t 78), (.t 80), (.t 82)], some (71, false)⟩,
  ⟨(some 84), .bin .neq (.t 77) (.t 83), some (71, false)⟩,
  ⟨(some 85), .pick (.t 71) (.c (.bool true)) (.t 84), none⟩]
def d3_5 : Option (List (List Nat)) := (some [[], [], [0, 1], [2], [3, 2], [4], [4], [5, 6, 4], [4, 7], [8, 4], [9], [9], [10, 11, 9, 9], [12, 9], [9, 13], [14, 12], [15], [15], [16, 17, 15], [15, 18], [19, 15], [20], [20], [22, 20], [20], [24, 20], [21, 23, 25, 20, 20], [20], [20], [28, 20], [20], [30, 20], [27, 29, 31, 26, 20], [26, 32, 20], [20, 33]])
def g3_6 : List G := [⟨(some 6), .mv (.c (.bool false)), none⟩]
def d3_6 : Option (List (List Nat)) := none
def g3_7 : List G := [⟨(some 15), .mv (.c (.int .i64 (0))), none⟩]
def d3_7 : Option (List (List Nat)) := none
def g3_8 : List G := [⟨(some 86), .mv (.t 15), none⟩,
  ⟨(some 87), .fa 2 6 (.t 3), none⟩,
  ⟨(some 88), .ld none (.t 87), none⟩,
  ⟨(some 89), .len (.t 88), none⟩,
  ⟨(some 90), .bin .lss (.t 86) (.t 89), none⟩,
  ⟨(some 91), .mv (.t 90), none⟩,
  ⟨(some 92), .mv (.t 15), some (91, true)⟩,
  ⟨(some 93), .bin .lss (.t 92) (.c (.int .i64 (3))), some (91, true)⟩,
  ⟨(some 94), .pick (.t 91) (.t 93) (.c (.bool false)), none⟩]
def d3_8 : Option (List (List Nat)) := none
def g3_9 : List G := [⟨(some 98), .fa 0 0 (.t 3), none⟩,
  ⟨(some 99), .ld (some 5) (.t 98), none⟩,
  ⟨(some 100), .fa 2 6 (.t 3), none⟩,
  ⟨(some 101), .ld none (.t 100), none⟩,
  ⟨(some 102), .mv (.t 15), none⟩,
  ⟨(some 103), .is 7 (.t 101) (.t 102), none⟩,
  ⟨(some 104), .fa 1 1 (.t 103), none⟩,
  ⟨(some 105), .ld (some 6) (.t 104), none⟩,
  ⟨(some 106), .mv (.t 2), none⟩,
  ⟨(some 107), .call 19 [(.t 99), (.t 105), (.t 106)], none⟩,
  ⟨(some 97), .mv (.t 107), none⟩,
  ⟨(some 108), .ext (.t 97) 0, none⟩,
  ⟨(some 109), .ext (.t 97) 1, none⟩,
  ⟨(some 16), .alloc (.agg [.int .i64 (0), .int .i64 (0), .int .i64 (0), .int .i64 (0), .int .i64 (0), .int .i64 (0)]), none⟩,
  ⟨none, .st (some 6) (.t 16) (.t 108), none⟩,
  ⟨(some 17), .mv (.t 109), none⟩]
def d3_9 : Option (List (List Nat)) := (some [[], [0], [], [2], [], [3, 4], [5], [6], [], [1, 7, 8], [9], [10], [10], [], [13, 11, 9, 0, 1, 2, 3, 4, 5, 6, 7, 8, 9, 10, 11, 13], [12, 14, 0, 1, 2, 3, 4, 5, 6, 7, 8, 9, 10, 11, 12, 13, 14]])
def g3_10 : List G := [⟨(some 111), .fa 0 0 (.t 3), none⟩,
  ⟨(some 112), .ld (some 5) (.t 111), none⟩,
  ⟨(some 113), .fa 2 6 (.t 3), none⟩,
  ⟨(some 114), .ld none (.t 113), none⟩,
  ⟨(some 115), .mv (.t 15), none⟩,
  ⟨(some 116), .is 7 (.t 114) (.t 115), none⟩,
  ⟨(some 117), .fa 1 1 (.t 116), none⟩,
  ⟨(some 118), .ld (some 6) (.t 117), none⟩,
  ⟨(some 119), .mv (.t 2), none⟩,
  ⟨(some 120), .call 20 [(.t 112), (.t 118), (.t 119)], none⟩,
  ⟨(some 110), .mv (.t 120), none⟩,
  ⟨(some 121), .ext (.t 110) 0, none⟩,
  ⟨(some 122), .ext (.t 110) 1, none⟩,
  ⟨(some 18), .alloc (.agg [.int .i64 (0), .int .i64 (0), .int .i64 (0), .int .i64 (0), .int .i64 (0), .int .i64 (0)]), none⟩,
  ⟨none, .st (some 6) (.t 18) (.t 121), none⟩,
  ⟨(some 19), .mv (.t 122), none⟩]
def d3_10 : Option (List (List Nat)) := (some [[], [0], [], [2], [], [3, 4], [5], [6], [], [1, 7, 8], [9], [10], [10], [], [13, 11, 9, 0, 1, 2, 3, 4, 5, 6, 7, 8, 9, 10, 11, 13], [12, 14, 0, 1, 2, 3, 4, 5, 6, 7, 8, 9, 10, 11, 12, 13, 14]])
def g3_11 : List G := [⟨(some 123), .ld (some 6) (.t 16), none⟩,
  ⟨(some 124), .ld (some 6) (.t 18), none⟩,
  ⟨(some 125), .eqv (.ar 6 (.i .i64)) true (.t 123) (.t 124), none⟩,
  ⟨(some 126), .mv (.t 125), none⟩,
  ⟨(some 127), .mv (.t 17), some (126, false)⟩,
  ⟨(some 128), .mv (.t 19), some (126, false)⟩,
  ⟨(some 129), .bin .neq (.t 127) (.t 128), some (126, false)⟩,
  ⟨(some 130), .pick (.t 126) (.c (.bool true)) (.t 129), none⟩]
def d3_11 : Option (List (List Nat)) := none
def g3_12 : List G := [⟨(some 6), .mv (.c (.bool false)), none⟩]
def d3_12 : Option (List (List Nat)) := none
def g3_13 : List G := [⟨(some 95), .mv (.t 15), none⟩,
  ⟨(some 96), .bin .add (.t 95) (.c (.int .i64 (1))), none⟩,
  ⟨(some 15), .mv (.t 96), none⟩]
def d3_13 : Option (List (List Nat)) := none
def g3_14 : List G := [⟨(some 131), .call 21 [], none⟩,
  ⟨(some 6), .mv (.t 131), none⟩]
def d3_14 : Option (List (List Nat)) := none
def c3 : AC := (.seq (.reg d3_0 g3_0) (.seq (.reg d3_1 g3_1) (.seq (.reg d3_2 g3_2) (.seq (.reg d3_3 g3_3) (.seq (.reg d3_4 g3_4) (.seq (.seq (.reg d3_5 g3_5) (.cond (.t 85) (.seq (.reg d3_6 g3_6) .ret) .skip)) (.seq (.seq (.reg d3_7 g3_7) (.block 0 (.loop (.seq (.seq (.reg d3_8 g3_8) (.cond (.t 94) .skip (.exit 0))) (.seq (.block 1 (.seq (.reg d3_9 g3_9) (.seq (.reg d3_10 g3_10) (.seq (.reg d3_11 g3_11) (.cond (.t 130) (.seq (.reg d3_12 g3_12) .ret) .skip))))) (.reg d3_13 g3_13)))))) (.seq (.reg d3_14 g3_14) .ret))))))))
def r3 : List RV := [.tmp 6]
def g4_0 : List G := [⟨(some 4), .box (.t 1), none⟩,
  ⟨(some 6), .mv (.c (.bool false)), none⟩]
def d4_0 : Option (List (List Nat)) := none
def g4_1 : List G := [⟨(some 25), .mv (.t 0), none⟩,
  ⟨(some 26), .call 22 [(.t 25)], none⟩,
  ⟨(some 7), .alloc (.agg [.agg [.int .i64 (0), .int .i64 (0), .int .i64 (0), .int .i64 (0), .int .i64 (0)], .int .i64 (0), .nils 7]), none⟩,
  ⟨none, .st (some 7) (.t 7) (.t 26), none⟩]
def d4_1 : Option (List (List Nat)) := none
def g4_2 : List G := [⟨(some 27), .fa 2 6 (.t 7), none⟩,
  ⟨(some 28), .ld none (.t 27), none⟩,
  ⟨(some 29), .len (.t 28), none⟩,
  ⟨(some 30), .bin .eql (.t 29) (.c (.int .i64 (0))), none⟩]
def d4_2 : Option (List (List Nat)) := none
def g4_3 : List G := [⟨(some 31), .call 21 [], none⟩,
  ⟨(some 6), .mv (.t 31), none⟩]
def d4_3 : Option (List (List Nat)) := none
def g4_4 : List G := [⟨(some 32), .fa 2 6 (.t 7), none⟩,
  ⟨(some 33), .ld none (.t 32), none⟩,
  ⟨(some 34), .ia 2 1 (.t 4) (.c (.int .i64 (0))), none⟩,
  ⟨(some 35), .ld none (.t 34), none⟩,
  ⟨(some 36), .fa 2 6 (.t 7), none⟩,
  ⟨(some 37), .ld none (.t 36), none⟩,
  ⟨(some 38), .len (.t 37), none⟩,
  ⟨(some 39), .call 23 [(.t 35), (.t 38)], none⟩,
  ⟨(some 40), .is 7 (.t 33) (.t 39), none⟩,
  ⟨(some 41), .ld (some 7) (.t 40), none⟩,
  ⟨(some 8), .alloc (.agg [.int .i64 (0), .agg [.int .i64 (0), .int .i64 (0), .int .i64 (0), .int .i64 (0), .int .i64 (0), .int .i64 (0)]]), none⟩,
  ⟨none, .st (some 7) (.t 8) (.t 41), none⟩]
def d4_4 : Option (List (List Nat)) := (some [[], [0], [], [2], [], [4], [5], [3, 6], [1, 7], [8], [], [10, 9, 7, 0, 1, 2, 3, 4, 5, 6, 7, 8, 9, 10]])
def g4_5 : List G := [⟨(some 42), .ld (some 7) (.t 7), none⟩,
  ⟨(some 43), .fa 1 1 (.t 8), none⟩,
  ⟨(some 44), .ld (some 6) (.t 43), none⟩,
  ⟨(some 45), .mv (.t 2), none⟩,
  ⟨(some 46), .call 24 [(.t 42), (.t 44), (.t 45)], none⟩,
  ⟨(some 9), .alloc (.agg [.int .i64 (0), .int .i64 (0), .int .i64 (0), .int .i64 (0), .int .i64 (0), .int .i64 (0)]), none⟩,
  ⟨none, .st (some 6) (.t 9) (.t 46), none⟩]
def d4_5 : Option (List (List Nat)) := none
def g4_6 : List G := [⟨(some 10), .mv (.c (.int .i64 (0))), none⟩]
def d4_6 : Option (List (List Nat)) := none
def g4_7 : List G := [⟨(some 47), .mv (.t 10), none⟩,
  ⟨(some 48), .bin .lss (.t 47) (.c (.int .i64 (3))), none⟩]
def d4_7 : Option (List (List Nat)) := none
def g4_8 : List G := [⟨(some 51), .mv (.t 2), none⟩,
  ⟨(some 52), .mv (.t 10), none⟩,
  ⟨(some 53), .call 25 [(.t 51), (.t 52)], none⟩,
  ⟨(some 54), .call 23 [(.t 53), (.c (.int .i64 (6)))], none⟩,
  ⟨(some 55), .ia 6 1 (.t 9) (.t 54), none⟩,
  ⟨none, .st none (.t 55) (.c (.int .i64 (31))), none⟩]
def d4_8 : Option (List (List Nat)) := none
def g4_9 : List G := [⟨(some 49), .mv (.t 10), none⟩,
  ⟨(some 50), .bin .add (.t 49) (.c (.int .i64 (1))), none⟩,
  ⟨(some 10), .mv (.t 50), none⟩]
def d4_9 : Option (List (List Nat)) := none
def g4_10 : List G := [⟨(some 57), .ld (some 7) (.t 7), none⟩,
  ⟨(some 58), .ld (some 6) (.t 9), none⟩,
  ⟨(some 59), .call 12 [(.t 57), (.t 58)], none⟩,
  ⟨(some 56), .mv (.t 59), none⟩,
  ⟨(some 60), .ext (.t 56) 0, none⟩,
  ⟨(some 61), .ext (.t 56) 1, none⟩,
  ⟨(some 11), .mv (.t 60), none⟩,
  ⟨(some 12), .mv (.t 61), none⟩]
def d4_10 : Option (List (List Nat)) := none
def g4_11 : List G := [⟨(some 63), .fa 0 0 (.t 7), none⟩,
  ⟨(some 64), .ld (some 5) (.t 63), none⟩,
  ⟨(some 65), .fa 1 1 (.t 8), none⟩,
  ⟨(some 66), .ld (some 6) (.t 65), none⟩,
  ⟨(some 67), .mv (.t 2), none⟩,
  ⟨(some 68), .call 19 [(.t 64), (.t 66), (.t 67)], none⟩,
  ⟨(some 62), .mv (.t 68), none⟩,
  ⟨(some 69), .ext (.t 62) 0, none⟩,
  ⟨(some 70), .ext (.t 62) 1, none⟩,
  ⟨(some 13), .alloc (.agg [.int .i64 (0), .int .i64 (0), .int .i64 (0), .int .i64 (0), .int .i64 (0), .int .i64 (0)]), none⟩,
  ⟨none, .st (some 6) (.t 13) (.t 69), none⟩,
  ⟨(some 14), .mv (.t 70), none⟩]
def d4_11 : Option (List (List Nat)) := none
def g4_12 : List G := [⟨(some 71), .mv (.t 12), none⟩,
  ⟨(some 72), .bin .neq (.t 71) (.c (.int .i64 (0))), none⟩,
  ⟨(some 73), .mv (.t 72), none⟩,
  ⟨(some 74), .mv (.t 14), some (73, false)⟩,
  ⟨(some 75), .bin .neq (.t 74) (.c (.int .i64 (0))), some (73, false)⟩,
  ⟨(some 76), .pick (.t 73) (.c (.bool true)) (.t 75), none⟩,
  ⟨(some 77), .mv (.t 76), none⟩,
  ⟨(some 78), .ld (some 7) (.t 7), some (77, false)⟩,
  ⟨(some 79), .ld (some 6) (.t 9), some (77, false)⟩,
  ⟨(some 80), .mv (.t 11), some (77, false)⟩,
  ⟨(some 81), .call 17 [(.t 78), (.t 79), (.t 80)], some (77, false)⟩,
  ⟨(some 82), .bin .neq (.t 81) (.c (.int .i64 (0))), some (77, false)⟩,
  ⟨(some 83), .pick (.t 77) (.c (.bool true)) (.t 82), none⟩]
def d4_12 : Option (List (List Nat)) := none
def g4_13 : List G := [⟨(some 6), .mv (.c (.bool false)), none⟩]
def d4_13 : Option (List (List Nat)) := none
def g4_14 : List G := [⟨(some 15), .mv (.c (.nils 1)), none⟩]
def d4_14 : Option (List (List Nat)) := none
def g4_15 : List G := [⟨(some 16), .mv (.c (.int .i64 (0))), none⟩]
def d4_15 : Option (List (List Nat)) := none
def g4_16 : List G := [⟨(some 84), .mv (.t 16), none⟩,
  ⟨(some 85), .bin .lss (.t 84) (.c (.int .i64 (6))), none⟩]
def d4_16 : Option (List (List Nat)) := none
def g4_17 : List G := [⟨(some 88), .ia 2 1 (.t 4) (.c (.int .i64 (1))), none⟩,
  ⟨(some 89), .ld none (.t 88), none⟩,
  ⟨(some 90), .call 23 [(.t 89), (.c (.int .i64 (64)))], none⟩,
  ⟨(some 91), .mv (.t 16), none⟩,
  ⟨(some 92), .bin .shl (.c (.int .i64 (1))) (.t 91), none⟩,
  ⟨(some 93), .bin .and (.t 90) (.t 92), none⟩,
  ⟨(some 94), .bin .neq (.t 93) (.c (.int .i64 (0))), none⟩]
def d4_17 : Option (List (List Nat)) := (some [[], [0], [1], [], [3], [2, 4], [5]])
def g4_18 : List G := [⟨(some 95), .mv (.t 15), none⟩,
  ⟨(some 96), .mv (.t 16), none⟩,
  ⟨(some 97), .bs 1 [(.t 96)], none⟩,
  ⟨(some 98), .app 3 1 8 (.int .i64 (0)) (.t 95) (.t 97), none⟩,
  ⟨(some 15), .mv (.t 98), none⟩]
def d4_18 : Option (List (List Nat)) := none
def g4_19 : List G := [⟨(some 86), .mv (.t 16), none⟩,
  ⟨(some 87), .bin .add (.t 86) (.c (.int .i64 (1))), none⟩,
  ⟨(some 16), .mv (.t 87), none⟩]
def d4_19 : Option (List (List Nat)) := none
def g4_20 : List G := [⟨(some 99), .mv (.t 15), none⟩,
  ⟨(some 100), .len (.t 99), none⟩,
  ⟨(some 101), .mv (.t 11), none⟩,
  ⟨(some 102), .len (.t 101), none⟩,
  ⟨(some 103), .bin .lss (.t 100) (.t 102), none⟩,
  ⟨(some 104), .mv (.t 103), none⟩,
  ⟨(some 105), .ld (some 7) (.t 7), some (104, true)⟩,
  ⟨(some 106), .ld (some 6) (.t 9), some (104, true)⟩,
  ⟨(some 107), .mv (.t 15), some (104, true)⟩,
  ⟨(some 108), .call 17 [(.t 105), (.t 106), (.t 107)], some (104, true)⟩,
  ⟨(some 109), .bin .neq (.t 108) (.c (.int .i64 (18))), some (104, true)⟩,
  ⟨(some 110), .pick (.t 104) (.t 109) (.c (.bool false)), none⟩]
def d4_20 : Option (List (List Nat)) := none
def g4_21 : List G := [⟨(some 6), .mv (.c (.bool false)), none⟩]
def d4_21 : Option (List (List Nat)) := none
def g4_22 : List G := [⟨(some 112), .ld (some 7) (.t 7), none⟩,
  ⟨(some 113), .ld (some 6) (.t 9), none⟩,
  ⟨(some 114), .call 26 [(.t 112), (.t 113)], none⟩,
  ⟨(some 111), .mv (.t 114), none⟩,
  ⟨(some 115), .ext (.t 111) 0, none⟩,
  ⟨(some 116), .ext (.t 111) 1, none⟩,
  ⟨(some 17), .mv (.t 115), none⟩,
  ⟨(some 18), .mv (.t 116), none⟩]
def d4_22 : Option (List (List Nat)) := none
def g4_23 : List G := [⟨(some 118), .ld (some 7) (.t 7), none⟩,
  ⟨(some 119), .ld (some 6) (.t 9), none⟩,
  ⟨(some 120), .ld (some 6) (.t 13), none⟩,
  ⟨(some 121), .mv (.t 11), none⟩,
  ⟨(some 122), .call 14 [(.t 118), (.t 119), (.t 120), (.t 121)], none⟩,
  ⟨(some 117), .mv (.t 122), none⟩,
  ⟨(some 123), .ext (.t 117) 0, none⟩,
  ⟨(some 124), .ext (.t 117) 1, none⟩,
  ⟨(some 19), .mv (.t 123), none⟩,
  ⟨(some 20), .mv (.t 124), none⟩]
def d4_23 : Option (List (List Nat)) := none
def g4_24 : List G := [⟨(some 125), .ld (some 6) (.t 13), none⟩,
  ⟨(some 21), .alloc (.agg [.int .i64 (0), .int .i64 (0), .int .i64 (0), .int .i64 (0), .int .i64 (0), .int .i64 (0)]), none⟩,
  ⟨none, .st (some 6) (.t 21) (.t 125), none⟩]
def d4_24 : Option (List (List Nat)) := none
def g4_25 : List G := [⟨(some 22), .mv (.c (.int .i64 (0))), none⟩]
def d4_25 : Option (List (List Nat)) := none
def g4_26 : List G := [⟨(some 126), .mv (.t 22), none⟩,
  ⟨(some 127), .bin .lss (.t 126) (.c (.int .i64 (6))), none⟩]
def d4_26 : Option (List (List Nat)) := none
def g4_27 : List G := [⟨(some 130), .mv (.t 22), none⟩,
  ⟨(some 131), .mv (.t 22), none⟩,
  ⟨(some 132), .ia 6 1 (.t 21) (.t 131), none⟩,
  ⟨(some 133), .ld none (.t 132), none⟩,
  ⟨(some 134), .mv (.t 2), none⟩,
  ⟨(some 135), .mv (.t 22), none⟩,
  ⟨(some 136), .bin .add (.t 135) (.c (.int .i64 (1))), none⟩,
  ⟨(some 137), .call 25 [(.t 134), (.t 136)], none⟩,
  ⟨(some 138), .call 23 [(.t 137), (.c (.int .i64 (32)))], none⟩,
  ⟨(some 139), .bin .or (.t 133) (.t 138), none⟩,
  ⟨(some 140), .ia 6 1 (.t 21) (.t 130), none⟩,
  ⟨none, .st none (.t 140) (.t 139), none⟩]
def d4_27 : Option (List (List Nat)) := (some [[], [], [1], [2], [], [], [5], [4, 6], [7, 7], [3, 8], [0, 0, 1, 2, 3, 4, 5, 6, 7, 8, 9], [10, 9, 8, 0, 1, 2, 3, 4, 5, 6, 7, 8, 9]])
def g4_28 : List G := [⟨(some 128), .mv (.t 22), none⟩,
  ⟨(some 129), .bin .add (.t 128) (.c (.int .i64 (1))), none⟩,
  ⟨(some 22), .mv (.t 129), none⟩]
def d4_28 : Option (List (List Nat)) := none
def g4_29 : List G := [⟨(some 142), .ld (some 7) (.t 7), none⟩,
  ⟨(some 143), .ld (some 6) (.t 9), none⟩,
  ⟨(some 144), .ld (some 6) (.t 21), none⟩,
  ⟨(some 145), .mv (.t 11), none⟩,
  ⟨(some 146), .call 14 [(.t 142), (.t 143), (.t 144), (.t 145)], none⟩,
  ⟨(some 141), .mv (.t 146), none⟩,
  ⟨(some 147), .ext (.t 141) 0, none⟩,
  ⟨(some 148), .ext (.t 141) 1, none⟩,
  ⟨(some 23), .mv (.t 147), none⟩,
  ⟨(some 24), .mv (.t 148), none⟩]
def d4_29 : Option (List (List Nat)) := none
def g4_30 : List G := [⟨(some 149), .mv (.t 18), none⟩,
  ⟨(some 150), .bin .neq (.t 149) (.c (.int .i64 (0))), none⟩,
  ⟨(some 151), .mv (.t 150), none⟩,
  ⟨(some 152), .mv (.t 20), some (151, false)⟩,
  ⟨(some 153), .bin .neq (.t 152) (.c (.int .i64 (0))), some (151, false)⟩,
  ⟨(some 154), .pick (.t 151) (.c (.bool true)) (.t 153), none⟩,
  ⟨(some 155), .mv (.t 154), none⟩,
  ⟨(some 156), .mv (.t 24), some (155, false)⟩,
  ⟨(some 157), .bin .neq (.t 156) (.c (.int .i64 (0))), some (155, false)⟩,
  ⟨(some 158), .pick (.t 155) (.c (.bool true)) (.t 157), none⟩,
  ⟨(some 159), .mv (.t 158), none⟩,
  ⟨(some 160), .mv (.t 23), some (159, false)⟩,
  ⟨(some 161), .fa 0 0 (.t 8), some (159, false)⟩,
  ⟨(some 162), .ld none (.t 161), some (159, false)⟩,
  ⟨(some 163), .call 27 [(.t 160), (.t 162)], some (159, false)⟩,
  ⟨(some 164), .un .not (.t 163), some (159, false)⟩,
  ⟨(some 165), .pick (.t 159) (.c (.bool true)) (.t 164), none⟩]
def d4_30 : Option (List (List Nat)) := none
def g4_31 : List G := [⟨(some 6), .mv (.c (.bool false)), none⟩]
def d4_31 : Option (List (List Nat)) := none
def g4_32 : List G := [⟨(some 166), .mv (.t 17), none⟩,
  ⟨(some 167), .len (.t 166), none⟩,
  ⟨(some 168), .bin .gtr (.t 167) (.c (.int .i64 (1))), none⟩]
def d4_32 : Option (List (List Nat)) := none
def g4_33 : List G := [⟨(some 169), .mv (.t 19), none⟩,
  ⟨(some 170), .fa 0 0 (.t 8), none⟩,
  ⟨(some 171), .ld none (.t 170), none⟩,
  ⟨(some 172), .bs 1 [(.t 171)], none⟩,
  ⟨(some 173), .call 16 [(.t 169), (.t 172)], none⟩,
  ⟨(some 174), .mv (.t 173), none⟩,
  ⟨(some 175), .call 21 [], some (174, true)⟩,
  ⟨(some 176), .pick (.t 174) (.t 175) (.c (.bool false)), none⟩,
  ⟨(some 6), .mv (.t 176), none⟩]
def d4_33 : Option (List (List Nat)) := none
def g4_34 : List G := [⟨(some 177), .mv (.t 19), none⟩,
  ⟨(some 178), .mv (.t 17), none⟩,
  ⟨(some 179), .call 16 [(.t 177), (.t 178)], none⟩,
  ⟨(some 180), .mv (.t 179), none⟩,
  ⟨(some 181), .call 21 [], some (180, true)⟩,
  ⟨(some 182), .pick (.t 180) (.t 181) (.c (.bool false)), none⟩,
  ⟨(some 6), .mv (.t 182), none⟩]
def d4_34 : Option (List (List Nat)) := none
def c4 : AC := (.seq (.reg d4_0 g4_0) (.seq (.reg d4_1 g4_1) (.seq (.seq (.reg d4_2 g4_2) (.cond (.t 30) (.seq (.reg d4_3 g4_3) .ret) .skip)) (.seq (.reg d4_4 g4_4) (.seq (.reg d4_5 g4_5) (.seq (.seq (.reg d4_6 g4_6) (.block 0 (.loop (.seq (.seq (.reg d4_7 g4_7) (.cond (.t 48) .skip (.exit 0))) (.seq (.block 1 (.reg d4_8 g4_8)) (.reg d4_9 g4_9)))))) (.seq (.reg d4_10 g4_10) (.seq (.reg d4_11 g4_11) (.seq (.seq (.reg d4_12 g4_12) (.cond (.t 83) (.seq (.reg d4_13 g4_13) .ret) .skip)) (.seq (.reg d4_14 g4_14) (.seq (.seq (.reg d4_15 g4_15) (.block 2 (.loop (.seq (.seq (.reg d4_16 g4_16) (.cond (.t 85) .skip (.exit 2))) (.seq (.block 3 (.seq (.reg d4_17 g4_17) (.cond (.t 94) (.reg d4_18 g4_18) .skip))) (.reg d4_19 g4_19)))))) (.seq (.seq (.reg d4_20 g4_20) (.cond (.t 110) (.seq (.reg d4_21 g4_21) .ret) .skip)) (.seq (.reg d4_22 g4_22) (.seq (.reg d4_23 g4_23) (.seq (.reg d4_24 g4_24) (.seq (.seq (.reg d4_25 g4_25) (.block 4 (.loop (.seq (.seq (.reg d4_26 g4_26) (.cond (.t 127) .skip (.exit 4))) (.seq (.block 5 (.reg d4_27 g4_27)) (.reg d4_28 g4_28)))))) (.seq (.reg d4_29 g4_29) (.seq (.seq (.reg d4_30 g4_30) (.cond (.t 165) (.seq (.reg d4_31 g4_31) .ret) .skip)) (.seq (.seq (.reg d4_32 g4_32) (.cond (.t 168) (.seq (.reg d4_33 g4_33) .ret) .skip)) (.seq (.reg d4_34 g4_34) .ret))))))))))))))))))))
def g5_0 : List G := [⟨(some 3), .box (.t 0), none⟩,
  ⟨(some 4), .box (.t 1), none⟩,
  ⟨(some 6), .mv (.c (.bool false)), none⟩]
def d5_0 : Option (List (List Nat)) := none
def g5_1 : List G := [⟨(some 20), .ld (some 7) (.t 3), none⟩,
  ⟨(some 21), .ld (some 6) (.t 4), none⟩,
  ⟨(some 22), .call 26 [(.t 20), (.t 21)], none⟩,
  ⟨(some 19), .mv (.t 22), none⟩,
  ⟨(some 23), .ext (.t 19) 0, none⟩,
  ⟨(some 24), .ext (.t 19) 1, none⟩,
  ⟨(some 7), .mv (.t 23), none⟩,
  ⟨(some 8), .mv (.t 24), none⟩]
def d5_1 : Option (List (List Nat)) := none
def g5_2 : List G := [⟨(some 26), .ld (some 7) (.t 3), none⟩,
  ⟨(some 27), .ld (some 6) (.t 4), none⟩,
  ⟨(some 28), .call 28 [(.t 26), (.t 27)], none⟩,
  ⟨(some 25), .mv (.t 28), none⟩,
  ⟨(some 29), .ext (.t 25) 0, none⟩,
  ⟨(some 30), .ext (.t 25) 1, none⟩,
  ⟨(some 9), .mv (.t 29), none⟩,
  ⟨(some 10), .mv (.t 30), none⟩]
def d5_2 : Option (List (List Nat)) := none
def g5_3 : List G := [⟨(some 32), .ld (some 7) (.t 3), none⟩,
  ⟨(some 33), .ld (some 6) (.t 4), none⟩,
  ⟨(some 34), .call 29 [(.t 32), (.t 33)], none⟩,
  ⟨(some 31), .mv (.t 34), none⟩,
  ⟨(some 35), .ext (.t 31) 0, none⟩,
  ⟨(some 36), .ext (.t 31) 1, none⟩,
  ⟨(some 11), .mv (.t 35), none⟩,
  ⟨(some 12), .mv (.t 36), none⟩]
def d5_3 : Option (List (List Nat)) := none
def g5_4 : List G := [⟨(some 38), .ld (some 7) (.t 3), none⟩,
  ⟨(some 39), .ld (some 6) (.t 4), none⟩,
  ⟨(some 40), .call 30 [(.t 38), (.t 39)], none⟩,
  ⟨(some 37), .mv (.t 40), none⟩,
  ⟨(some 41), .ext (.t 37) 0, none⟩,
  ⟨(some 42), .ext (.t 37) 1, none⟩,
  ⟨(some 13), .mv (.t 41), none⟩,
  ⟨(some 14), .mv (.t 42), none⟩]
def d5_4 : Option (List (List Nat)) := none
def g5_5 : List G := [⟨(some 44), .ld (some 7) (.t 3), none⟩,
  ⟨(some 45), .mv (.t 2), none⟩,
  ⟨(some 46), .call 31 [(.t 44), (.t 45)], none⟩,
  ⟨(some 43), .mv (.t 46), none⟩,
  ⟨(some 47), .ext (.t 43) 0, none⟩,
  ⟨(some 48), .ext (.t 43) 1, none⟩,
  ⟨(some 15), .mv (.t 47), none⟩,
  ⟨(some 16), .mv (.t 48), none⟩]
def d5_5 : Option (List (List Nat)) := none
def g5_6 : List G := [⟨(some 50), .ld (some 7) (.t 3), none⟩,
  ⟨(some 51), .mv (.t 2), none⟩,
  ⟨(some 52), .call 32 [(.t 50), (.t 51)], none⟩,
  ⟨(some 49), .mv (.t 52), none⟩,
  ⟨(some 53), .ext (.t 49) 0, none⟩,
  ⟨(some 54), .ext (.t 49) 1, none⟩,
  ⟨(some 17), .mv (.t 53), none⟩,
  ⟨(some 18), .mv (.t 54), none⟩]
def d5_6 : Option (List (List Nat)) := none
def g5_7 : List G := [⟨(some 55), .mv (.t 7), none⟩,
  ⟨(some 56), .mv (.t 9), none⟩,
  ⟨(some 57), .call 16 [(.t 55), (.t 56)], none⟩,
  ⟨(some 58), .mv (.t 57), none⟩,
  ⟨(some 59), .mv (.t 8), some (58, true)⟩,
  ⟨(some 60), .mv (.t 10), some (58, true)⟩,
  ⟨(some 61), .bin .eql (.t 59) (.t 60), some (58, true)⟩,
  ⟨(some 62), .pick (.t 58) (.t 61) (.c (.bool false)), none⟩,
  ⟨(some 63), .mv (.t 62), none⟩,
  ⟨(some 64), .mv (.t 11), some (63, true)⟩,
  ⟨(some 65), .mv (.t 13), some (63, true)⟩,
  ⟨(some 66), .bin .eql (.t 64) (.t 65), some (63, true)⟩,
  ⟨(some 67), .pick (.t 63) (.t 66) (.c (.bool false)), none⟩,
  ⟨(some 68), .mv (.t 67), none⟩,
  ⟨(some 69), .mv (.t 12), some (68, true)⟩,
  ⟨(some 70), .mv (.t 14), some (68, true)⟩,
  ⟨(some 71), .bin .eql (.t 69) (.t 70), some (68, true)⟩,
  ⟨(some 72), .pick (.t 68) (.t 71) (.c (.bool false)), none⟩,
  ⟨(some 73), .mv (.t 72), none⟩,
  ⟨(some 74), .mv (.t 15), some (73, true)⟩,
  ⟨(some 75), .mv (.t 17), some (73, true)⟩,
  ⟨(some 76), .call 16 [(.t 74), (.t 75)], some (73, true)⟩,
  ⟨(some 77), .pick (.t 73) (.t 76) (.c (.bool false)), none⟩,
  ⟨(some 78), .mv (.t 77), none⟩,
  ⟨(some 79), .mv (.t 16), some (78, true)⟩,
  ⟨(some 80), .mv (.t 18), some (78, true)⟩,
  ⟨(some 81), .bin .eql (.t 79) (.t 80), some (78, true)⟩,
  ⟨(some 82), .pick (.t 78) (.t 81) (.c (.bool false)), none⟩,
  ⟨(some 83), .mv (.t 82), none⟩,
  ⟨(some 84), .call 21 [], some (83, true)⟩,
  ⟨(some 85), .pick (.t 83) (.t 84) (.c (.bool false)), none⟩,
  ⟨(some 6), .mv (.t 85), none⟩]
def d5_7 : Option (List (List Nat)) := none
def c5 : AC := (.seq (.reg d5_0 g5_0) (.seq (.reg d5_1 g5_1) (.seq (.reg d5_2 g5_2) (.seq (.reg d5_3 g5_3) (.seq (.reg d5_4 g5_4) (.seq (.reg d5_5 g5_5) (.seq (.reg d5_6 g5_6) (.seq (.reg d5_7 g5_7) .ret))))))))
def g11_0 : List G := [⟨(some 6), .mv (.c (.bool false)), none⟩]
def d11_0 : Option (List (List Nat)) := none
def l11_0 : List Nat := []
theorem cd11_0 : dOk d11_0 g11_0 l11_0 = true := by kernel_rfl
def g11_1 : List G := [⟨(some 29), .mv (.t 0), none⟩,
  ⟨(some 30), .call 22 [(.t 29)], none⟩,
  ⟨(some 7), .alloc (.agg [.agg [.int .i64 (0), .int .i64 (0), .int .i64 (0), .int .i64 (0), .int .i64 (0)], .int .i64 (0), .nils 7]), none⟩,
  ⟨none, .st (some 7) (.t 7) (.t 30), none⟩]
def d11_1 : Option (List (List Nat)) := none
def l11_1 : List Nat := []
theorem cd11_1 : dOk d11_1 g11_1 l11_1 = true := by kernel_rfl
def g11_2 : List G := [⟨(some 31), .mv (.t 2), none⟩,
  ⟨(some 32), .call 23 [(.t 31), (.c (.int .i64 (99)))], none⟩,
  ⟨(some 33), .bin .add (.c (.int .i64 (1))) (.t 32), none⟩,
  ⟨(some 2), .mv (.t 33), none⟩]
def d11_2 : Option (List (List Nat)) := none
def l11_2 : List Nat := []
theorem cd11_2 : dOk d11_2 g11_2 l11_2 = true := by kernel_rfl
def g11_3 : List G := [⟨(some 35), .ld (some 7) (.t 7), none⟩,
  ⟨(some 36), .call 55 [(.t 35)], none⟩,
  ⟨(some 34), .mv (.t 36), none⟩,
  ⟨(some 37), .ext (.t 34) 0, none⟩,
  ⟨(some 38), .ext (.t 34) 1, none⟩,
  ⟨(some 8), .alloc (.agg [.int .i64 (0), .int .i64 (0), .int .i64 (0), .int .i64 (0), .int .i64 (0), .int .i64 (0)]), none⟩,
  ⟨none, .st (some 6) (.t 8) (.t 37), none⟩,
  ⟨(some 9), .mv (.t 38), none⟩]
def d11_3 : Option (List (List Nat)) := none
def l11_3 : List Nat := []
theorem cd11_3 : dOk d11_3 g11_3 l11_3 = true := by kernel_rfl
def g11_4 : List G := [⟨(some 39), .mv (.t 9), none⟩,
  ⟨(some 40), .bin .eql (.t 39) (.c (.int .i64 (16))), none⟩]
def d11_4 : Option (List (List Nat)) := none
def l11_4 : List Nat := []
theorem cd11_4 : dOk d11_4 g11_4 l11_4 = true := by kernel_rfl
def g11_5 : List G := [⟨(some 42), .ld (some 7) (.t 7), none⟩,
  ⟨(some 43), .mv (.t 1), none⟩,
  ⟨(some 44), .call 23 [(.t 43), (.c (.int .i64 (15625)))], none⟩,
  ⟨(some 45), .call 35 [(.t 44)], none⟩,
  ⟨(some 46), .bld [.int .i64 (0), .agg [.int .i64 (0), .int .i64 (0), .int .i64 (0), .int .i64 (0), .int .i64 (0), .int .i64 (0)]] [(0, (.c (.int .i64 (99)))), (1, (.t 45))], none⟩,
  ⟨(some 47), .call 59 [(.t 42), (.t 46)], none⟩,
  ⟨(some 41), .mv (.t 47), none⟩,
  ⟨(some 48), .ext (.t 41) 0, none⟩,
  ⟨(some 49), .ext (.t 41) 1, none⟩,
  ⟨(some 10), .alloc (.agg [.agg [.int .i64 (0), .int .i64 (0), .int .i64 (0), .int .i64 (0), .int .i64 (0)], .int .i64 (0), .nils 7]), none⟩,
  ⟨none, .st (some 7) (.t 10) (.t 48), none⟩,
  ⟨(some 11), .mv (.t 49), none⟩]
def d11_5 : Option (List (List Nat)) := (some [[], [], [1], [2, 2], [3], [0, 4, 3], [5], [6], [6], [], [9, 7, 5, 0, 1, 2, 3, 4, 5, 6, 7, 9], [8, 10, 0, 1, 2, 3, 4, 5, 6, 7, 8, 9, 10]])
def l11_5 : List Nat := [0, 0, 2, 6, 14, 31, 63, 127, 127, 0, 767, 2047]
theorem cd11_5 : dOk d11_5 g11_5 l11_5 = true := by kernel_rfl
def g11_6 : List G := [⟨(some 50), .mv (.t 11), none⟩,
  ⟨(some 51), .bin .eql (.t 50) (.c (.int .i64 (19))), none⟩,
  ⟨(some 52), .mv (.t 51), none⟩,
  ⟨(some 53), .call 21 [], some (52, true)⟩,
  ⟨(some 54), .pick (.t 52) (.t 53) (.c (.bool false)), none⟩,
  ⟨(some 6), .mv (.t 54), none⟩]
def d11_6 : Option (List (List Nat)) := none
def l11_6 : List Nat := []
theorem cd11_6 : dOk d11_6 g11_6 l11_6 = true := by kernel_rfl
def g11_7 : List G := [⟨(some 55), .mv (.t 9), none⟩,
  ⟨(some 56), .bin .neq (.t 55) (.c (.int .i64 (0))), none⟩]
def d11_7 : Option (List (List Nat)) := none
def l11_7 : List Nat := []
theorem cd11_7 : dOk d11_7 g11_7 l11_7 = true := by kernel_rfl
def g11_8 : List G := [⟨(some 6), .mv (.c (.bool false)), none⟩]
def d11_8 : Option (List (List Nat)) := none
def g11_9 : List G := [⟨(some 12), .mv (.c (.int .i64 (0))), none⟩]
def d11_9 : Option (List (List Nat)) := none
def l11_9 : List Nat := []
theorem cd11_9 : dOk d11_9 g11_9 l11_9 = true := by kernel_rfl
def g11_10 : List G := [⟨(some 13), .mv (.c (.int .i64 (0))), none⟩]
def d11_10 : Option (List (List Nat)) := none
def l11_10 : List Nat := []
theorem cd11_10 : dOk d11_10 g11_10 l11_10 = true := by kernel_rfl
def g11_11 : List G := [⟨(some 57), .mv (.t 13), none⟩,
  ⟨(some 58), .bin .lss (.t 57) (.c (.int .i64 (6))), none⟩]
def d11_11 : Option (List (List Nat)) := none
def l11_11 : List Nat := []
theorem cd11_11 : dOk d11_11 g11_11 l11_11 = true := by kernel_rfl
def g11_12 : List G := [⟨(some 61), .mv (.t 12), none⟩,
  ⟨(some 62), .bin .mul (.t 61) (.c (.int .i64 (5))), none⟩,
  ⟨(some 63), .mv (.t 13), none⟩,
  ⟨(some 64), .ia 6 1 (.t 8) (.t 63), none⟩,
  ⟨(some 65), .ld none (.t 64), none⟩,
  ⟨(some 66), .bin .add (.t 62) (.t 65), none⟩,
  ⟨(some 12), .mv (.t 66), none⟩]
def d11_12 : Option (List (List Nat)) := none
def l11_12 : List Nat := []
theorem cd11_12 : dOk d11_12 g11_12 l11_12 = true := by kernel_rfl
def g11_13 : List G := [⟨(some 59), .mv (.t 13), none⟩,
  ⟨(some 60), .bin .add (.t 59) (.c (.int .i64 (1))), none⟩,
  ⟨(some 13), .mv (.t 60), none⟩]
def d11_13 : Option (List (List Nat)) := none
def l11_13 : List Nat := []
theorem cd11_13 : dOk d11_13 g11_13 l11_13 = true := by kernel_rfl
def g11_14 : List G := [⟨(some 67), .mv (.t 12), none⟩,
  ⟨(some 68), .bin .lss (.t 67) (.c (.int .i64 (0))), none⟩,
  ⟨(some 69), .mv (.t 68), none⟩,
  ⟨(some 70), .mv (.t 12), some (69, false)⟩,
  ⟨(some 71), .bin .geq (.t 70) (.c (.int .i64 (15625))), some (69, false)⟩,
  ⟨(some 72), .pick (.t 69) (.c (.bool true)) (.t 71), none⟩]
def d11_14 : Option (List (List Nat)) := none
def l11_14 : List Nat := []
theorem cd11_14 : dOk d11_14 g11_14 l11_14 = true := by kernel_rfl
def g11_15 : List G := [⟨(some 6), .mv (.c (.bool false)), none⟩]
def d11_15 : Option (List (List Nat)) := none
def g11_16 : List G := [⟨(some 73), .mv (.t 12), none⟩,
  ⟨(some 74), .bin .gtr (.t 73) (.c (.int .i64 (0))), none⟩]
def d11_16 : Option (List (List Nat)) := none
def l11_16 : List Nat := []
theorem cd11_16 : dOk d11_16 g11_16 l11_16 = true := by kernel_rfl
def g11_17 : List G := [⟨(some 76), .ld (some 7) (.t 7), none⟩,
  ⟨(some 77), .mv (.t 1), none⟩,
  ⟨(some 78), .mv (.t 12), none⟩,
  ⟨(some 79), .call 23 [(.t 77), (.t 78)], none⟩,
  ⟨(some 80), .call 35 [(.t 79)], none⟩,
  ⟨(some 81), .bld [.int .i64 (0), .agg [.int .i64 (0), .int .i64 (0), .int .i64 (0), .int .i64 (0), .int .i64 (0), .int .i64 (0)]] [(0, (.c (.int .i64 (99)))), (1, (.t 80))], none⟩,
  ⟨(some 82), .call 59 [(.t 76), (.t 81)], none⟩,
  ⟨(some 75), .mv (.t 82), none⟩,
  ⟨(some 83), .ext (.t 75) 0, none⟩,
  ⟨(some 84), .ext (.t 75) 1, none⟩,
  ⟨(some 14), .alloc (.agg [.agg [.int .i64 (0), .int .i64 (0), .int .i64 (0), .int .i64 (0), .int .i64 (0)], .int .i64 (0), .nils 7]), none⟩,
  ⟨none, .st (some 7) (.t 14) (.t 83), none⟩,
  ⟨(some 15), .mv (.t 84), none⟩]
def d11_17 : Option (List (List Nat)) := (some [[], [], [], [1, 2], [3, 3], [4], [0, 5, 4], [6], [7], [7], [], [10, 8, 6, 0, 1, 2, 3, 4, 5, 6, 7, 8, 10], [9, 11, 0, 1, 2, 3, 4, 5, 6, 7, 8, 9, 10, 11]])
def l11_17 : List Nat := [0, 0, 0, 6, 14, 30, 63, 127, 255, 255, 0, 1535, 4095]
theorem cd11_17 : dOk d11_17 g11_17 l11_17 = true := by kernel_rfl
def g11_18 : List G := [⟨(some 85), .mv (.t 15), none⟩,
  ⟨(some 86), .bin .neq (.t 85) (.c (.int .i64 (19))), none⟩]
def d11_18 : Option (List (List Nat)) := none
def l11_18 : List Nat := []
theorem cd11_18 : dOk d11_18 g11_18 l11_18 = true := by kernel_rfl
def g11_19 : List G := [⟨(some 6), .mv (.c (.bool false)), none⟩]
def d11_19 : Option (List (List Nat)) := none
def g11_20 : List G := [⟨(some 88), .ld (some 7) (.t 7), none⟩,
  ⟨(some 89), .ld (some 6) (.t 8), none⟩,
  ⟨(some 90), .bld [.int .i64 (0), .agg [.int .i64 (0), .int .i64 (0), .int .i64 (0), .int .i64 (0), .int .i64 (0), .int .i64 (0)]] [(0, (.c (.int .i64 (99)))), (1, (.t 89))], none⟩,
  ⟨(some 91), .call 59 [(.t 88), (.t 90)], none⟩,
  ⟨(some 87), .mv (.t 91), none⟩,
  ⟨(some 92), .ext (.t 87) 0, none⟩,
  ⟨(some 93), .ext (.t 87) 1, none⟩,
  ⟨(some 16), .alloc (.agg [.agg [.int .i64 (0), .int .i64 (0), .int .i64 (0), .int .i64 (0), .int .i64 (0)], .int .i64 (0), .nils 7]), none⟩,
  ⟨none, .st (some 7) (.t 16) (.t 92), none⟩,
  ⟨(some 17), .mv (.t 93), none⟩]
def d11_20 : Option (List (List Nat)) := none
def l11_20 : List Nat := []
theorem cd11_20 : dOk d11_20 g11_20 l11_20 = true := by kernel_rfl
def g11_21 : List G := [⟨(some 95), .ld (some 7) (.t 7), none⟩,
  ⟨(some 96), .call 57 [(.t 95), (.c (.int .i64 (99)))], none⟩,
  ⟨(some 94), .mv (.t 96), none⟩,
  ⟨(some 97), .ext (.t 94) 0, none⟩,
  ⟨(some 98), .ext (.t 94) 1, none⟩,
  ⟨(some 18), .alloc (.agg [.agg [.int .i64 (0), .int .i64 (0), .int .i64 (0), .int .i64 (0), .int .i64 (0)], .int .i64 (0), .nils 7]), none⟩,
  ⟨none, .st (some 7) (.t 18) (.t 97), none⟩,
  ⟨(some 19), .mv (.t 98), none⟩]
def d11_21 : Option (List (List Nat)) := none
def l11_21 : List Nat := []
theorem cd11_21 : dOk d11_21 g11_21 l11_21 = true := by kernel_rfl
def g11_22 : List G := [⟨(some 99), .mv (.t 17), none⟩,
  ⟨(some 100), .bin .neq (.t 99) (.c (.int .i64 (0))), none⟩,
  ⟨(some 101), .mv (.t 100), none⟩,
  ⟨(some 102), .mv (.t 19), some (101, false)⟩,
  ⟨(some 103), .bin .neq (.t 102) (.c (.int .i64 (0))), some (101, false)⟩,
  ⟨(some 104), .pick (.t 101) (.c (.bool true)) (.t 103), none⟩,
  ⟨(some 105), .mv (.t 104), none⟩,
  ⟨(some 106), .ld (some 7) (.t 16), some (105, false)⟩,
  ⟨(some 107), .ld (some 7) (.t 18), some (105, false)⟩,
  ⟨(some 108), .call 63 [(.t 106), (.t 107)], some (105, false)⟩,
  ⟨(some 109), .un .not (.t 108), some (105, false)⟩,
  ⟨(some 110), .pick (.t 105) (.c (.bool true)) (.t 109), none⟩,
  ⟨(some 111), .mv (.t 110), none⟩,
  ⟨(some 112), .ld (some 7) (.t 16), some (111, false)⟩,
  ⟨(some 113), .call 47 [(.t 112)], some (111, false)⟩,
  ⟨(some 114), .bin .neq (.t 113) (.c (.int .i64 (0))), some (111, false)⟩,
  ⟨(some 115), .pick (.t 111) (.c (.bool true)) (.t 114), none⟩]
def d11_22 : Option (List (List Nat)) := none
def l11_22 : List Nat := []
theorem cd11_22 : dOk d11_22 g11_22 l11_22 = true := by kernel_rfl
def g11_23 : List G := [⟨(some 6), .mv (.c (.bool false)), none⟩]
def d11_23 : Option (List (List Nat)) := none
def g11_24 : List G := [⟨(some 20), .mv (.c (.int .i64 (0))), none⟩]
def d11_24 : Option (List (List Nat)) := none
def l11_24 : List Nat := []
theorem cd11_24 : dOk d11_24 g11_24 l11_24 = true := by kernel_rfl
def g11_25 : List G := [⟨(some 116), .mv (.t 20), none⟩,
  ⟨(some 117), .fa 2 6 (.t 7), none⟩,
  ⟨(some 118), .ld none (.t 117), none⟩,
  ⟨(some 119), .len (.t 118), none⟩,
  ⟨(some 120), .bin .lss (.t 116) (.t 119), none⟩]
def d11_25 : Option (List (List Nat)) := none
def l11_25 : List Nat := []
theorem cd11_25 : dOk d11_25 g11_25 l11_25 = true := by kernel_rfl
def g11_26 : List G := [⟨(some 124), .ld (some 7) (.t 16), none⟩,
  ⟨(some 125), .fa 2 6 (.t 7), none⟩,
  ⟨(some 126), .ld none (.t 125), none⟩,
  ⟨(some 127), .mv (.t 20), none⟩,
  ⟨(some 128), .is 7 (.t 126) (.t 127), none⟩,
  ⟨(some 129), .fa 0 0 (.t 128), none⟩,
  ⟨(some 130), .ld none (.t 129), none⟩,
  ⟨(some 131), .call 39 [(.t 124), (.t 130)], none⟩,
  ⟨(some 123), .mv (.t 131), none⟩,
  ⟨(some 132), .ext (.t 123) 0, none⟩,
  ⟨(some 133), .ext (.t 123) 1, none⟩,
  ⟨(some 21), .alloc (.agg [.int .i64 (0), .int .i64 (0), .int .i64 (0), .int .i64 (0), .int .i64 (0), .int .i64 (0)]), none⟩,
  ⟨none, .st (some 6) (.t 21) (.t 132), none⟩,
  ⟨(some 22), .mv (.t 133), none⟩]
def d11_26 : Option (List (List Nat)) := (some [[], [], [1], [], [2, 3], [4], [5], [0, 6], [7], [8], [8], [], [11, 9, 7, 0, 1, 2, 3, 4, 5, 6, 7, 8, 9, 11], [10, 12, 0, 1, 2, 3, 4, 5, 6, 7, 8, 9, 10, 11, 12]])
def l11_26 : List Nat := [0, 0, 2, 0, 14, 30, 62, 127, 255, 511, 511, 0, 3071, 8191]
theorem cd11_26 : dOk d11_26 g11_26 l11_26 = true := by kernel_rfl
def g11_27 : List G := [⟨(some 134), .mv (.t 22), none⟩,
  ⟨(some 135), .bin .neq (.t 134) (.c (.int .i64 (0))), none⟩,
  ⟨(some 136), .mv (.t 135), none⟩,
  ⟨(some 137), .ld (some 6) (.t 21), some (136, false)⟩,
  ⟨(some 138), .fa 2 6 (.t 7), some (136, false)⟩,
  ⟨(some 139), .ld none (.t 138), some (136, false)⟩,
  ⟨(some 140), .mv (.t 20), some (136, false)⟩,
  ⟨(some 141), .is 7 (.t 139) (.t 140), some (136, false)⟩,
  ⟨(some 142), .fa 1 1 (.t 141), some (136, false)⟩,
  ⟨(some 143), .ld (some 6) (.t 142), some (136, false)⟩,
  ⟨(some 144), .eqv (.ar 6 (.i .i64)) true (.t 137) (.t 143), some (136, false)⟩,
  ⟨(some 145), .pick (.t 136) (.c (.bool true)) (.t 144), none⟩]
def d11_27 : Option (List (List Nat)) := (some [[], [0], [1], [2], [2], [4, 2], [2], [5, 6, 2], [7, 2], [8, 2], [3, 9, 2], [2, 10]])
def l11_27 : List Nat := [0, 1, 3, 7, 7, 23, 7, 119, 247, 503, 1023, 2047]
theorem cd11_27 : dOk d11_27 g11_27 l11_27 = true := by kernel_rfl
def g11_28 : List G := [⟨(some 6), .mv (.c (.bool false)), none⟩]
def d11_28 : Option (List (List Nat)) := none
def g11_29 : List G := [⟨(some 121), .mv (.t 20), none⟩,
  ⟨(some 122), .bin .add (.t 121) (.c (.int .i64 (1))), none⟩,
  ⟨(some 20), .mv (.t 122), none⟩]
def d11_29 : Option (List (List Nat)) := none
def l11_29 : List Nat := []
theorem cd11_29 : dOk d11_29 g11_29 l11_29 = true := by kernel_rfl
def g11_30 : List G := [⟨(some 147), .ld (some 7) (.t 16), none⟩,
  ⟨(some 148), .call 61 [(.t 147), (.c (.int .i64 (99)))], none⟩,
  ⟨(some 146), .mv (.t 148), none⟩,
  ⟨(some 149), .ext (.t 146) 0, none⟩,
  ⟨(some 150), .ext (.t 146) 1, none⟩,
  ⟨(some 23), .alloc (.agg [.agg [.int .i64 (0), .int .i64 (0), .int .i64 (0), .int .i64 (0), .int .i64 (0)], .int .i64 (0), .nils 7]), none⟩,
  ⟨none, .st (some 7) (.t 23) (.t 149), none⟩,
  ⟨(some 24), .mv (.t 150), none⟩]
def d11_30 : Option (List (List Nat)) := none
def l11_30 : List Nat := []
theorem cd11_30 : dOk d11_30 g11_30 l11_30 = true := by kernel_rfl
def g11_31 : List G := [⟨(some 152), .ld (some 7) (.t 7), none⟩,
  ⟨(some 153), .mv (.t 2), none⟩,
  ⟨(some 154), .call 61 [(.t 152), (.t 153)], none⟩,
  ⟨(some 151), .mv (.t 154), none⟩,
  ⟨(some 155), .ext (.t 151) 0, none⟩,
  ⟨(some 156), .ext (.t 151) 1, none⟩,
  ⟨(some 25), .alloc (.agg [.agg [.int .i64 (0), .int .i64 (0), .int .i64 (0), .int .i64 (0), .int .i64 (0)], .int .i64 (0), .nils 7]), none⟩,
  ⟨none, .st (some 7) (.t 25) (.t 155), none⟩,
  ⟨(some 26), .mv (.t 156), none⟩]
def d11_31 : Option (List (List Nat)) := none
def l11_31 : List Nat := []
theorem cd11_31 : dOk d11_31 g11_31 l11_31 = true := by kernel_rfl
def g11_32 : List G := [⟨(some 158), .ld (some 7) (.t 7), none⟩,
  ⟨(some 159), .mv (.t 2), none⟩,
  ⟨(some 160), .call 39 [(.t 158), (.t 159)], none⟩,
  ⟨(some 157), .mv (.t 160), none⟩,
  ⟨(some 161), .ext (.t 157) 0, none⟩,
  ⟨(some 162), .ext (.t 157) 1, none⟩,
  ⟨(some 27), .alloc (.agg [.int .i64 (0), .int .i64 (0), .int .i64 (0), .int .i64 (0), .int .i64 (0), .int .i64 (0)]), none⟩,
  ⟨none, .st (some 6) (.t 27) (.t 161), none⟩,
  ⟨(some 28), .mv (.t 162), none⟩]
def d11_32 : Option (List (List Nat)) := none
def l11_32 : List Nat := []
theorem cd11_32 : dOk d11_32 g11_32 l11_32 = true := by kernel_rfl
def g11_33 : List G := [⟨(some 163), .mv (.t 24), none⟩,
  ⟨(some 164), .bin .eql (.t 163) (.c (.int .i64 (0))), none⟩,
  ⟨(some 165), .mv (.t 164), none⟩,
  ⟨(some 166), .ld (some 7) (.t 23), some (165, true)⟩,
  ⟨(some 167), .ld (some 7) (.t 7), some (165, true)⟩,
  ⟨(some 168), .call 63 [(.t 166), (.t 167)], some (165, true)⟩,
  ⟨(some 169), .pick (.t 165) (.t 168) (.c (.bool false)), none⟩,
  ⟨(some 170), .mv (.t 169), none⟩,
  ⟨(some 171), .mv (.t 26), some (170, true)⟩,
  ⟨(some 172), .mv (.t 28), some (170, true)⟩,
  ⟨(some 173), .bin .eql (.t 171) (.t 172), some (170, true)⟩,
  ⟨(some 174), .pick (.t 170) (.t 173) (.c (.bool false)), none⟩,
  ⟨(some 175), .mv (.t 174), none⟩,
  ⟨(some 176), .call 21 [], some (175, true)⟩,
  ⟨(some 177), .pick (.t 175) (.t 176) (.c (.bool false)), none⟩,
  ⟨(some 6), .mv (.t 177), none⟩]
def d11_33 : Option (List (List Nat)) := none
def l11_33 : List Nat := []
theorem cd11_33 : dOk d11_33 g11_33 l11_33 = true := by kernel_rfl
def c11 : AC := (.seq (.reg d11_0 g11_0) (.seq (.reg d11_1 g11_1) (.seq (.reg d11_2 g11_2) (.seq (.reg d11_3 g11_3) (.seq (.seq (.reg d11_4 g11_4) (.cond (.t 40) (.seq (.reg d11_5 g11_5) (.seq (.reg d11_6 g11_6) .ret)) .skip)) (.seq (.seq (.reg d11_7 g11_7) (.cond (.t 56) (.seq (.reg d11_8 g11_8) .ret) .skip)) (.seq (.reg d11_9 g11_9) (.seq (.seq (.reg d11_10 g11_10) (.block 0 (.loop (.seq (.seq (.reg d11_11 g11_11) (.cond (.t 58) .skip (.exit 0))) (.seq (.block 1 (.reg d11_12 g11_12)) (.reg d11_13 g11_13)))))) (.seq (.seq (.reg d11_14 g11_14) (.cond (.t 72) (.seq (.reg d11_15 g11_15) .ret) .skip)) (.seq (.seq (.reg d11_16 g11_16) (.cond (.t 74) (.seq (.reg d11_17 g11_17) (.seq (.reg d11_18 g11_18) (.cond (.t 86) (.seq (.reg d11_19 g11_19) .ret) .skip))) .skip)) (.seq (.reg d11_20 g11_20) (.seq (.reg d11_21 g11_21) (.seq (.seq (.reg d11_22 g11_22) (.cond (.t 115) (.seq (.reg d11_23 g11_23) .ret) .skip)) (.seq (.seq (.reg d11_24 g11_24) (.block 2 (.loop (.seq (.seq (.reg d11_25 g11_25) (.cond (.t 120) .skip (.exit 2))) (.seq (.block 3 (.seq (.reg d11_26 g11_26) (.seq (.reg d11_27 g11_27) (.cond (.t 145) (.seq (.reg d11_28 g11_28) .ret) .skip)))) (.reg d11_29 g11_29)))))) (.seq (.reg d11_30 g11_30) (.seq (.reg d11_31 g11_31) (.seq (.reg d11_32 g11_32) (.seq (.reg d11_33 g11_33) .ret))))))))))))))))))
def r11 : List RV := [.tmp 6]
theorem cc11 : (Try.f11.body.bind (cCode Try.prog Try.f11.ntmps)) = some c11 := by kernel_rfl
theorem cr11 : cRes Try.prog Try.f11.results.toList = some r11 := by kernel_rfl
theorem ca11 : callable Try.prog 11 = true := by kernel_rfl
def g12_0 : List G := [⟨(some 2), .box (.t 0), none⟩,
  ⟨(some 3), .box (.t 1), none⟩,
  ⟨(some 4), .mv (.c (.nils 1)), none⟩,
  ⟨(some 5), .mv (.c (.int .i64 (0))), none⟩]
def d12_0 : Option (List (List Nat)) := none
def l12_0 : List Nat := []
theorem cd12_0 : dOk d12_0 g12_0 l12_0 = true := by kernel_rfl
def g12_1 : List G := [⟨(some 14), .ld (some 7) (.t 2), none⟩,
  ⟨(some 15), .call 47 [(.t 14)], none⟩,
  ⟨(some 16), .ld (some 6) (.t 3), none⟩,
  ⟨(some 17), .call 45 [(.t 16)], none⟩,
  ⟨(some 18), .bs 1 [(.t 15), (.t 17)], none⟩,
  ⟨(some 19), .call 64 [(.t 18)], none⟩,
  ⟨(some 6), .mv (.t 19), none⟩]
def d12_1 : Option (List (List Nat)) := (some [[], [0], [], [2, 1], [1, 3], [4, 3], [5, 5, 0, 1, 2, 3, 4, 5]])
def l12_1 : List Nat := [0, 1, 0, 7, 15, 31, 63]
theorem cd12_1 : dOk d12_1 g12_1 l12_1 = true := by kernel_rfl
def g12_2 : List G := [⟨(some 20), .mv (.t 6), none⟩,
  ⟨(some 21), .bin .neq (.t 20) (.c (.int .i64 (0))), none⟩]
def d12_2 : Option (List (List Nat)) := none
def l12_2 : List Nat := []
theorem cd12_2 : dOk d12_2 g12_2 l12_2 = true := by kernel_rfl
def g12_3 : List G := [⟨(some 22), .mv (.t 6), none⟩,
  ⟨(some 4), .mv (.c (.nils 1)), none⟩,
  ⟨(some 5), .mv (.t 22), none⟩]
def d12_3 : Option (List (List Nat)) := none
def l12_3 : List Nat := []
theorem cd12_3 : dOk d12_3 g12_3 l12_3 = true := by kernel_rfl
def g12_4 : List G := [⟨(some 23), .ld (some 7) (.t 2), none⟩,
  ⟨(some 24), .ld (some 6) (.t 3), none⟩,
  ⟨(some 25), .call 65 [(.t 23), (.t 24)], none⟩,
  ⟨(some 7), .mv (.t 25), none⟩]
def d12_4 : Option (List (List Nat)) := none
def l12_4 : List Nat := []
theorem cd12_4 : dOk d12_4 g12_4 l12_4 = true := by kernel_rfl
def g12_5 : List G := [⟨(some 8), .mv (.c (.nils 1)), none⟩]
def d12_5 : Option (List (List Nat)) := none
def l12_5 : List Nat := []
theorem cd12_5 : dOk d12_5 g12_5 l12_5 = true := by kernel_rfl
def g12_6 : List G := [⟨(some 9), .mv (.c (.bool false)), none⟩]
def d12_6 : Option (List (List Nat)) := none
def l12_6 : List Nat := []
theorem cd12_6 : dOk d12_6 g12_6 l12_6 = true := by kernel_rfl
def g12_7 : List G := [⟨(some 26), .mv (.c (.int .i64 (0))), none⟩]
def d12_7 : Option (List (List Nat)) := none
def l12_7 : List Nat := []
theorem cd12_7 : dOk d12_7 g12_7 l12_7 = true := by kernel_rfl
def g12_8 : List G := [⟨(some 27), .bin .lss (.t 26) (.c (.int .i64 (64))), none⟩]
def d12_8 : Option (List (List Nat)) := none
def l12_8 : List Nat := []
theorem cd12_8 : dOk d12_8 g12_8 l12_8 = true := by kernel_rfl
def g12_9 : List G := [⟨(some 28), .mv (.t 26), none⟩,
  ⟨(some 10), .mv (.t 28), none⟩]
def d12_9 : Option (List (List Nat)) := none
def l12_9 : List Nat := []
theorem cd12_9 : dOk d12_9 g12_9 l12_9 = true := by kernel_rfl
def g12_10 : List G := [⟨(some 11), .mv (.c (.nils 1)), none⟩]
def d12_10 : Option (List (List Nat)) := none
def l12_10 : List Nat := []
theorem cd12_10 : dOk d12_10 g12_10 l12_10 = true := by kernel_rfl
def g12_11 : List G := [⟨(some 29), .mv (.c (.int .i64 (0))), none⟩]
def d12_11 : Option (List (List Nat)) := none
def l12_11 : List Nat := []
theorem cd12_11 : dOk d12_11 g12_11 l12_11 = true := by kernel_rfl
def g12_12 : List G := [⟨(some 30), .bin .lss (.t 29) (.c (.int .i64 (6))), none⟩]
def d12_12 : Option (List (List Nat)) := none
def l12_12 : List Nat := []
theorem cd12_12 : dOk d12_12 g12_12 l12_12 = true := by kernel_rfl
def g12_13 : List G := [⟨(some 31), .mv (.t 29), none⟩,
  ⟨(some 12), .mv (.t 31), none⟩]
def d12_13 : Option (List (List Nat)) := none
def l12_13 : List Nat := []
theorem cd12_13 : dOk d12_13 g12_13 l12_13 = true := by kernel_rfl
def g12_14 : List G := [⟨(some 32), .mv (.t 10), none⟩,
  ⟨(some 33), .mv (.t 12), none⟩,
  ⟨(some 34), .bin .shr (.t 32) (.t 33), none⟩,
  ⟨(some 35), .bin .and (.t 34) (.c (.int .i64 (1))), none⟩,
  ⟨(some 36), .bin .eql (.t 35) (.c (.int .i64 (1))), none⟩]
def d12_14 : Option (List (List Nat)) := none
def l12_14 : List Nat := []
theorem cd12_14 : dOk d12_14 g12_14 l12_14 = true := by kernel_rfl
def g12_15 : List G := [⟨(some 37), .mv (.t 11), none⟩,
  ⟨(some 38), .mv (.t 12), none⟩,
  ⟨(some 39), .bs 1 [(.t 38)], none⟩,
  ⟨(some 40), .app 3 1 8 (.int .i64 (0)) (.t 37) (.t 39), none⟩,
  ⟨(some 11), .mv (.t 40), none⟩]
def d12_15 : Option (List (List Nat)) := none
def l12_15 : List Nat := []
theorem cd12_15 : dOk d12_15 g12_15 l12_15 = true := by kernel_rfl
def g12_16 : List G := [⟨(some 41), .bin .add (.t 29) (.c (.int .i64 (1))), none⟩,
  ⟨(some 29), .mv (.t 41), none⟩]
def d12_16 : Option (List (List Nat)) := none
def l12_16 : List Nat := []
theorem cd12_16 : dOk d12_16 g12_16 l12_16 = true := by kernel_rfl
def g12_17 : List G := [⟨(some 42), .mv (.t 9), none⟩,
  ⟨(some 43), .un .not (.t 42), none⟩,
  ⟨(some 44), .mv (.t 43), none⟩,
  ⟨(some 45), .mv (.t 11), some (44, false)⟩,
  ⟨(some 46), .len (.t 45), some (44, false)⟩,
  ⟨(some 47), .mv (.t 8), some (44, false)⟩,
  ⟨(some 48), .len (.t 47), some (44, false)⟩,
  ⟨(some 49), .bin .lss (.t 46) (.t 48), some (44, false)⟩,
  ⟨(some 50), .pick (.t 44) (.c (.bool true)) (.t 49), none⟩,
  ⟨(some 51), .mv (.t 50), none⟩,
  ⟨(some 52), .mv (.t 11), some (51, false)⟩,
  ⟨(some 53), .len (.t 52), some (51, false)⟩,
  ⟨(some 54), .mv (.t 8), some (51, false)⟩,
  ⟨(some 55), .len (.t 54), some (51, false)⟩,
  ⟨(some 56), .bin .eql (.t 53) (.t 55), some (51, false)⟩,
  ⟨(some 57), .mv (.t 56), some (51, false)⟩,
  ⟨(some 58), .mv (.t 11), some (57, true)⟩,
  ⟨(some 59), .mv (.t 8), some (57, true)⟩,
  ⟨(some 60), .call 66 [(.t 58), (.t 59)], some (57, true)⟩,
  ⟨(some 61), .bin .lss (.t 60) (.c (.int .i64 (0))), some (57, true)⟩,
  ⟨(some 62), .pick (.t 57) (.t 61) (.c (.bool false)), some (51, false)⟩,
  ⟨(some 63), .pick (.t 51) (.c (.bool true)) (.t 62), none⟩,
  ⟨(some 13), .mv (.t 63), none⟩]
def d12_17 : Option (List (List Nat)) := none
def l12_17 : List Nat := []
theorem cd12_17 : dOk d12_17 g12_17 l12_17 = true := by kernel_rfl
def g12_18 : List G := [⟨(some 64), .mv (.t 13), none⟩,
  ⟨(some 65), .mv (.t 64), none⟩,
  ⟨(some 66), .fa 0 0 (.t 2), some (65, true)⟩,
  ⟨(some 67), .ld (some 5) (.t 66), some (65, true)⟩,
  ⟨(some 68), .mv (.t 7), some (65, true)⟩,
  ⟨(some 69), .mv (.t 11), some (65, true)⟩,
  ⟨(some 70), .call 67 [(.t 67), (.t 68), (.t 69)], some (65, true)⟩,
  ⟨(some 71), .pick (.t 65) (.t 70) (.c (.bool false)), none⟩]
def d12_18 : Option (List (List Nat)) := none
def l12_18 : List Nat := []
theorem cd12_18 : dOk d12_18 g12_18 l12_18 = true := by kernel_rfl
def g12_19 : List G := [⟨(some 72), .mv (.t 11), none⟩,
  ⟨(some 8), .mv (.t 72), none⟩,
  ⟨(some 9), .mv (.c (.bool true)), none⟩]
def d12_19 : Option (List (List Nat)) := none
def l12_19 : List Nat := []
theorem cd12_19 : dOk d12_19 g12_19 l12_19 = true := by kernel_rfl
def g12_20 : List G := [⟨(some 73), .bin .add (.t 26) (.c (.int .i64 (1))), none⟩,
  ⟨(some 26), .mv (.t 73), none⟩]
def d12_20 : Option (List (List Nat)) := none
def l12_20 : List Nat := []
theorem cd12_20 : dOk d12_20 g12_20 l12_20 = true := by kernel_rfl
def g12_21 : List G := [⟨(some 74), .mv (.t 8), none⟩,
  ⟨(some 4), .mv (.t 74), none⟩,
  ⟨(some 5), .mv (.c (.int .i64 (0))), none⟩]
def d12_21 : Option (List (List Nat)) := none
def l12_21 : List Nat := []
theorem cd12_21 : dOk d12_21 g12_21 l12_21 = true := by kernel_rfl
def c12 : AC := (.seq (.reg d12_0 g12_0) (.seq (.seq (.reg d12_1 g12_1) (.seq (.reg d12_2 g12_2) (.cond (.t 21) (.seq (.reg d12_3 g12_3) .ret) .skip))) (.seq (.reg d12_4 g12_4) (.seq (.reg d12_5 g12_5) (.seq (.reg d12_6 g12_6) (.seq (.seq (.reg d12_7 g12_7) (.block 0 (.loop (.seq (.reg d12_8 g12_8) (.seq (.cond (.t 27) .skip (.exit 0)) (.seq (.block 1 (.seq (.reg d12_9 g12_9) (.seq (.reg d12_10 g12_10) (.seq (.seq (.reg d12_11 g12_11) (.block 2 (.loop (.seq (.reg d12_12 g12_12) (.seq (.cond (.t 30) .skip (.exit 2)) (.seq (.block 3 (.seq (.reg d12_13 g12_13) (.seq (.reg d12_14 g12_14) (.cond (.t 36) (.reg d12_15 g12_15) .skip)))) (.reg d12_16 g12_16))))))) (.seq (.reg d12_17 g12_17) (.seq (.reg d12_18 g12_18) (.cond (.t 71) (.reg d12_19 g12_19) .skip))))))) (.reg d12_20 g12_20))))))) (.seq (.reg d12_21 g12_21) .ret)))))))
def r12 : List RV := [.tmp 4, .tmp 5]
theorem cc12 : (Try.f12.body.bind (cCode Try.prog Try.f12.ntmps)) = some c12 := by kernel_rfl
theorem cr12 : cRes Try.prog Try.f12.results.toList = some r12 := by kernel_rfl
theorem ca12 : callable Try.prog 12 = true := by kernel_rfl
def g14_0 : List G := [⟨(some 4), .box (.t 0), none⟩,
  ⟨(some 5), .box (.t 1), none⟩,
  ⟨(some 6), .box (.t 2), none⟩,
  ⟨(some 7), .box (.t 3), none⟩,
  ⟨(some 8), .mv (.c (.nils 1)), none⟩,
  ⟨(some 9), .mv (.c (.int .i64 (0))), none⟩]
def d14_0 : Option (List (List Nat)) := none
def l14_0 : List Nat := []
theorem cd14_0 : dOk d14_0 g14_0 l14_0 = true := by kernel_rfl
def g14_1 : List G := [⟨(some 11), .ld (some 7) (.t 4), none⟩,
  ⟨(some 12), .call 47 [(.t 11)], none⟩,
  ⟨(some 13), .ld (some 6) (.t 5), none⟩,
  ⟨(some 14), .call 45 [(.t 13)], none⟩,
  ⟨(some 15), .ld (some 6) (.t 6), none⟩,
  ⟨(some 16), .call 45 [(.t 15)], none⟩,
  ⟨(some 17), .bs 1 [(.t 12), (.t 14), (.t 16)], none⟩,
  ⟨(some 18), .call 64 [(.t 17)], none⟩,
  ⟨(some 10), .mv (.t 18), none⟩]
def d14_1 : Option (List (List Nat)) := (some [[], [0], [], [2, 1], [], [4, 3], [1, 3, 5], [6, 5], [7, 7, 0, 1, 2, 3, 4, 5, 6, 7]])
def l14_1 : List Nat := [0, 1, 0, 7, 0, 31, 63, 127, 255]
theorem cd14_1 : dOk d14_1 g14_1 l14_1 = true := by kernel_rfl
def g14_2 : List G := [⟨(some 19), .mv (.t 10), none⟩,
  ⟨(some 20), .bin .neq (.t 19) (.c (.int .i64 (0))), none⟩]
def d14_2 : Option (List (List Nat)) := none
def l14_2 : List Nat := []
theorem cd14_2 : dOk d14_2 g14_2 l14_2 = true := by kernel_rfl
def g14_3 : List G := [⟨(some 21), .mv (.t 10), none⟩,
  ⟨(some 8), .mv (.c (.nils 1)), none⟩,
  ⟨(some 9), .mv (.t 21), none⟩]
def d14_3 : Option (List (List Nat)) := none
def l14_3 : List Nat := []
theorem cd14_3 : dOk d14_3 g14_3 l14_3 = true := by kernel_rfl
def g14_4 : List G := [⟨(some 22), .ld none (.t 7), none⟩,
  ⟨(some 23), .call 71 [(.t 22)], none⟩,
  ⟨(some 24), .un .not (.t 23), none⟩]
def d14_4 : Option (List (List Nat)) := none
def l14_4 : List Nat := []
theorem cd14_4 : dOk d14_4 g14_4 l14_4 = true := by kernel_rfl
def g14_5 : List G := [⟨(some 8), .mv (.c (.nils 1)), none⟩,
  ⟨(some 9), .mv (.c (.int .i64 (18))), none⟩]
def d14_5 : Option (List (List Nat)) := none
def l14_5 : List Nat := []
theorem cd14_5 : dOk d14_5 g14_5 l14_5 = true := by kernel_rfl
def g14_6 : List G := [⟨(some 25), .ld (some 7) (.t 4), none⟩,
  ⟨(some 26), .ld (some 6) (.t 5), none⟩,
  ⟨(some 27), .call 65 [(.t 25), (.t 26)], none⟩,
  ⟨(some 28), .mk 74 [(.t 7), (.t 4), (.t 6)], none⟩,
  ⟨(some 29), .call 73 [(.t 27), (.t 28)], none⟩,
  ⟨(some 30), .call 72 [(.t 29)], none⟩,
  ⟨(some 8), .mv (.t 30), none⟩,
  ⟨(some 9), .mv (.c (.int .i64 (0))), none⟩]
def d14_6 : Option (List (List Nat)) := none
def l14_6 : List Nat := []
theorem cd14_6 : dOk d14_6 g14_6 l14_6 = true := by kernel_rfl
def c14 : AC := (.seq (.reg d14_0 g14_0) (.seq (.seq (.reg d14_1 g14_1) (.seq (.reg d14_2 g14_2) (.cond (.t 20) (.seq (.reg d14_3 g14_3) .ret) .skip))) (.seq (.seq (.reg d14_4 g14_4) (.cond (.t 24) (.seq (.reg d14_5 g14_5) .ret) .skip)) (.seq (.reg d14_6 g14_6) .ret))))
def r14 : List RV := [.tmp 8, .tmp 9]
theorem cc14 : (Try.f14.body.bind (cCode Try.prog Try.f14.ntmps)) = some c14 := by kernel_rfl
theorem cr14 : cRes Try.prog Try.f14.results.toList = some r14 := by kernel_rfl
theorem ca14 : callable Try.prog 14 = true := by kernel_rfl
def g16_0 : List G := [⟨(some 4), .mv (.c (.bool false)), none⟩]
def d16_0 : Option (List (List Nat)) := none
def l16_0 : List Nat := []
theorem cd16_0 : dOk d16_0 g16_0 l16_0 = true := by kernel_rfl
def g16_1 : List G := [⟨(some 6), .mv (.t 0), none⟩,
  ⟨(some 7), .len (.t 6), none⟩,
  ⟨(some 8), .mv (.t 1), none⟩,
  ⟨(some 9), .len (.t 8), none⟩,
  ⟨(some 10), .bin .neq (.t 7) (.t 9), none⟩]
def d16_1 : Option (List (List Nat)) := none
def l16_1 : List Nat := []
theorem cd16_1 : dOk d16_1 g16_1 l16_1 = true := by kernel_rfl
def g16_2 : List G := [⟨(some 4), .mv (.c (.bool false)), none⟩]
def d16_2 : Option (List (List Nat)) := none
def l16_2 : List Nat := []
theorem cd16_2 : dOk d16_2 g16_2 l16_2 = true := by kernel_rfl
def g16_3 : List G := [⟨(some 5), .mv (.c (.int .i64 (0))), none⟩]
def d16_3 : Option (List (List Nat)) := none
def l16_3 : List Nat := []
theorem cd16_3 : dOk d16_3 g16_3 l16_3 = true := by kernel_rfl
def g16_4 : List G := [⟨(some 11), .mv (.t 5), none⟩,
  ⟨(some 12), .mv (.t 0), none⟩,
  ⟨(some 13), .len (.t 12), none⟩,
  ⟨(some 14), .bin .lss (.t 11) (.t 13), none⟩]
def d16_4 : Option (List (List Nat)) := none
def l16_4 : List Nat := []
theorem cd16_4 : dOk d16_4 g16_4 l16_4 = true := by kernel_rfl
def g16_5 : List G := [⟨(some 17), .mv (.t 0), none⟩,
  ⟨(some 18), .mv (.t 5), none⟩,
  ⟨(some 19), .is 1 (.t 17) (.t 18), none⟩,
  ⟨(some 20), .ld none (.t 19), none⟩,
  ⟨(some 21), .mv (.t 1), none⟩,
  ⟨(some 22), .mv (.t 5), none⟩,
  ⟨(some 23), .is 1 (.t 21) (.t 22), none⟩,
  ⟨(some 24), .ld none (.t 23), none⟩,
  ⟨(some 25), .bin .neq (.t 20) (.t 24), none⟩]
def d16_5 : Option (List (List Nat)) := (some [[], [], [0, 1], [2], [], [], [4, 5], [6], [3, 7]])
def l16_5 : List Nat := [0, 0, 3, 7, 0, 0, 48, 112, 255]
theorem cd16_5 : dOk d16_5 g16_5 l16_5 = true := by kernel_rfl
def g16_6 : List G := [⟨(some 4), .mv (.c (.bool false)), none⟩]
def d16_6 : Option (List (List Nat)) := none
def l16_6 : List Nat := []
theorem cd16_6 : dOk d16_6 g16_6 l16_6 = true := by kernel_rfl
def g16_7 : List G := [⟨(some 15), .mv (.t 5), none⟩,
  ⟨(some 16), .bin .add (.t 15) (.c (.int .i64 (1))), none⟩,
  ⟨(some 5), .mv (.t 16), none⟩]
def d16_7 : Option (List (List Nat)) := none
def l16_7 : List Nat := []
theorem cd16_7 : dOk d16_7 g16_7 l16_7 = true := by kernel_rfl
def g16_8 : List G := [⟨(some 4), .mv (.c (.bool true)), none⟩]
def d16_8 : Option (List (List Nat)) := none
def l16_8 : List Nat := []
theorem cd16_8 : dOk d16_8 g16_8 l16_8 = true := by kernel_rfl
def c16 : AC := (.seq (.reg d16_0 g16_0) (.seq (.seq (.reg d16_1 g16_1) (.cond (.t 10) (.seq (.reg d16_2 g16_2) .ret) .skip)) (.seq (.seq (.reg d16_3 g16_3) (.block 0 (.loop (.seq (.seq (.reg d16_4 g16_4) (.cond (.t 14) .skip (.exit 0))) (.seq (.block 1 (.seq (.reg d16_5 g16_5) (.cond (.t 25) (.seq (.reg d16_6 g16_6) .ret) .skip))) (.reg d16_7 g16_7)))))) (.seq (.reg d16_8 g16_8) .ret))))
def r16 : List RV := [.tmp 4]
theorem cc16 : (Try.f16.body.bind (cCode Try.prog Try.f16.ntmps)) = some c16 := by kernel_rfl
theorem cr16 : cRes Try.prog Try.f16.results.toList = some r16 := by kernel_rfl
theorem ca16 : callable Try.prog 16 = true := by kernel_rfl
def g19_0 : List G := [⟨(some 3), .box (.t 0), none⟩,
  ⟨(some 4), .box (.t 1), none⟩,
  ⟨(some 6), .alloc (.agg [.int .i64 (0), .int .i64 (0), .int .i64 (0), .int .i64 (0), .int .i64 (0), .int .i64 (0)]), none⟩,
  ⟨(some 7), .mv (.c (.int .i64 (0))), none⟩]
def d19_0 : Option (List (List Nat)) := none
def l19_0 : List Nat := []
theorem cd19_0 : dOk d19_0 g19_0 l19_0 = true := by kernel_rfl
def g19_1 : List G := [⟨(some 13), .ld (some 5) (.t 3), none⟩,
  ⟨(some 14), .call 43 [(.t 13)], none⟩,
  ⟨(some 15), .ld (some 6) (.t 4), none⟩,
  ⟨(some 16), .call 41 [(.t 15)], none⟩,
  ⟨(some 17), .bs 1 [(.t 14), (.t 16)], none⟩,
  ⟨(some 18), .call 64 [(.t 17)], none⟩,
  ⟨(some 8), .mv (.t 18), none⟩]
def d19_1 : Option (List (List Nat)) := (some [[], [0], [], [2, 1], [1, 3], [4, 3], [5, 5, 0, 1, 2, 3, 4, 5]])
def l19_1 : List Nat := [0, 1, 0, 7, 15, 31, 63]
theorem cd19_1 : dOk d19_1 g19_1 l19_1 = true := by kernel_rfl
def g19_2 : List G := [⟨(some 19), .mv (.t 8), none⟩,
  ⟨(some 20), .bin .neq (.t 19) (.c (.int .i64 (0))), none⟩]
def d19_2 : Option (List (List Nat)) := none
def l19_2 : List Nat := []
theorem cd19_2 : dOk d19_2 g19_2 l19_2 = true := by kernel_rfl
def g19_3 : List G := [⟨(some 21), .bld [.int .i64 (0), .int .i64 (0), .int .i64 (0), .int .i64 (0), .int .i64 (0), .int .i64 (0)] [], none⟩,
  ⟨(some 22), .mv (.t 8), none⟩,
  ⟨none, .st (some 6) (.t 6) (.t 21), none⟩,
  ⟨(some 7), .mv (.t 22), none⟩]
def d19_3 : Option (List (List Nat)) := none
def l19_3 : List Nat := []
theorem cd19_3 : dOk d19_3 g19_3 l19_3 = true := by kernel_rfl
def g19_4 : List G := [⟨(some 9), .alloc (.agg [.int .i64 (0), .int .i64 (0), .int .i64 (0), .int .i64 (0), .int .i64 (0), .int .i64 (0)]), none⟩]
def d19_4 : Option (List (List Nat)) := none
def l19_4 : List Nat := []
theorem cd19_4 : dOk d19_4 g19_4 l19_4 = true := by kernel_rfl
def g19_5 : List G := [⟨(some 23), .mv (.c (.int .i64 (0))), none⟩]
def d19_5 : Option (List (List Nat)) := none
def l19_5 : List Nat := []
theorem cd19_5 : dOk d19_5 g19_5 l19_5 = true := by kernel_rfl
def g19_6 : List G := [⟨(some 24), .bin .lss (.t 23) (.c (.int .i64 (6))), none⟩]
def d19_6 : Option (List (List Nat)) := none
def l19_6 : List Nat := []
theorem cd19_6 : dOk d19_6 g19_6 l19_6 = true := by kernel_rfl
def g19_7 : List G := [⟨(some 25), .mv (.t 23), none⟩,
  ⟨(some 10), .mv (.t 25), none⟩]
def d19_7 : Option (List (List Nat)) := none
def l19_7 : List Nat := []
theorem cd19_7 : dOk d19_7 g19_7 l19_7 = true := by kernel_rfl
def g19_8 : List G := [⟨(some 26), .ld (some 5) (.t 3), none⟩,
  ⟨(some 27), .ld (some 6) (.t 4), none⟩,
  ⟨(some 28), .mv (.t 10), none⟩,
  ⟨(some 29), .call 77 [(.t 26), (.t 27), (.t 28)], none⟩,
  ⟨(some 30), .call 81 [(.t 29)], none⟩,
  ⟨(some 11), .mv (.t 30), none⟩]
def d19_8 : Option (List (List Nat)) := none
def l19_8 : List Nat := []
theorem cd19_8 : dOk d19_8 g19_8 l19_8 = true := by kernel_rfl
def g19_9 : List G := [⟨(some 12), .mv (.c (.int .i64 (0))), none⟩]
def d19_9 : Option (List (List Nat)) := none
def l19_9 : List Nat := []
theorem cd19_9 : dOk d19_9 g19_9 l19_9 = true := by kernel_rfl
def g19_10 : List G := [⟨(some 31), .mv (.t 2), none⟩,
  ⟨(some 32), .len (.t 31), none⟩,
  ⟨(some 33), .bin .gtr (.t 32) (.c (.int .i64 (0))), none⟩]
def d19_10 : Option (List (List Nat)) := none
def l19_10 : List Nat := []
theorem cd19_10 : dOk d19_10 g19_10 l19_10 = true := by kernel_rfl
def g19_11 : List G := [⟨(some 34), .mv (.t 2), none⟩,
  ⟨(some 35), .mv (.t 10), none⟩,
  ⟨(some 36), .mv (.t 2), none⟩,
  ⟨(some 37), .len (.t 36), none⟩,
  ⟨(some 38), .bin .rem (.t 35) (.t 37), none⟩,
  ⟨(some 39), .is 1 (.t 34) (.t 38), none⟩,
  ⟨(some 40), .ld none (.t 39), none⟩,
  ⟨(some 41), .mv (.t 11), none⟩,
  ⟨(some 42), .len (.t 41), none⟩,
  ⟨(some 43), .bin .rem (.t 40) (.t 42), none⟩,
  ⟨(some 44), .mv (.t 11), none⟩,
  ⟨(some 45), .len (.t 44), none⟩,
  ⟨(some 46), .bin .add (.t 43) (.t 45), none⟩,
  ⟨(some 47), .mv (.t 11), none⟩,
  ⟨(some 48), .len (.t 47), none⟩,
  ⟨(some 49), .bin .rem (.t 46) (.t 48), none⟩,
  ⟨(some 12), .mv (.t 49), none⟩]
def d19_11 : Option (List (List Nat)) := none
def l19_11 : List Nat := []
theorem cd19_11 : dOk d19_11 g19_11 l19_11 = true := by kernel_rfl
def g19_12 : List G := [⟨(some 50), .mv (.t 10), none⟩,
  ⟨(some 51), .mv (.t 11), none⟩,
  ⟨(some 52), .mv (.t 12), none⟩,
  ⟨(some 53), .is 1 (.t 51) (.t 52), none⟩,
  ⟨(some 54), .ld none (.t 53), none⟩,
  ⟨(some 55), .bin .shl (.c (.int .i64 (1))) (.t 54), none⟩,
  ⟨(some 56), .ia 6 1 (.t 9) (.t 50), none⟩,
  ⟨none, .st none (.t 56) (.t 55), none⟩]
def d19_12 : Option (List (List Nat)) := none
def l19_12 : List Nat := []
theorem cd19_12 : dOk d19_12 g19_12 l19_12 = true := by kernel_rfl
def g19_13 : List G := [⟨(some 57), .bin .add (.t 23) (.c (.int .i64 (1))), none⟩,
  ⟨(some 23), .mv (.t 57), none⟩]
def d19_13 : Option (List (List Nat)) := none
def l19_13 : List Nat := []
theorem cd19_13 : dOk d19_13 g19_13 l19_13 = true := by kernel_rfl
def g19_14 : List G := [⟨(some 58), .ld (some 6) (.t 9), none⟩,
  ⟨none, .st (some 6) (.t 6) (.t 58), none⟩,
  ⟨(some 7), .mv (.c (.int .i64 (0))), none⟩]
def d19_14 : Option (List (List Nat)) := none
def l19_14 : List Nat := []
theorem cd19_14 : dOk d19_14 g19_14 l19_14 = true := by kernel_rfl
def c19 : AC := (.seq (.reg d19_0 g19_0) (.seq (.seq (.reg d19_1 g19_1) (.seq (.reg d19_2 g19_2) (.cond (.t 20) (.seq (.reg d19_3 g19_3) .ret) .skip))) (.seq (.reg d19_4 g19_4) (.seq (.seq (.reg d19_5 g19_5) (.block 0 (.loop (.seq (.reg d19_6 g19_6) (.seq (.cond (.t 24) .skip (.exit 0)) (.seq (.block 1 (.seq (.reg d19_7 g19_7) (.seq (.reg d19_8 g19_8) (.seq (.reg d19_9 g19_9) (.seq (.seq (.reg d19_10 g19_10) (.cond (.t 33) (.reg d19_11 g19_11) .skip)) (.reg d19_12 g19_12)))))) (.reg d19_13 g19_13))))))) (.seq (.reg d19_14 g19_14) .ret)))))
def r19 : List RV := [.cell 6 (some 6), .tmp 7]
theorem cc19 : (Try.f19.body.bind (cCode Try.prog Try.f19.ntmps)) = some c19 := by kernel_rfl
theorem cr19 : cRes Try.prog Try.f19.results.toList = some r19 := by kernel_rfl
theorem ca19 : callable Try.prog 19 = true := by kernel_rfl
def g21_0 : List G := [⟨(some 0), .mv (.c (.bool false)), none⟩]
def d21_0 : Option (List (List Nat)) := none
def l21_0 : List Nat := []
theorem cd21_0 : dOk d21_0 g21_0 l21_0 = true := by kernel_rfl
def g21_1 : List G := [⟨(some 16), .call 82 [], none⟩,
  ⟨(some 1), .alloc (.agg [.agg [.int .i64 (0), .int .i64 (0), .int .i64 (0), .int .i64 (0), .int .i64 (0)], .int .i64 (0), .nils 7]), none⟩,
  ⟨none, .st (some 7) (.t 1) (.t 16), none⟩]
def d21_1 : Option (List (List Nat)) := none
def l21_1 : List Nat := []
theorem cd21_1 : dOk d21_1 g21_1 l21_1 = true := by kernel_rfl
def g21_2 : List G := [⟨(some 17), .bld [.int .i64 (0), .int .i64 (0), .int .i64 (0), .int .i64 (0), .int .i64 (0), .int .i64 (0)] [(0, (.c (.int .i64 (31)))), (1, (.c (.int .i64 (1)))), (2, (.c (.int .i64 (1)))), (3, (.c (.int .i64 (1)))), (4, (.c (.int .i64 (1)))), (5, (.c (.int .i64 (31))))], none⟩,
  ⟨(some 2), .alloc (.agg [.int .i64 (0), .int .i64 (0), .int .i64 (0), .int .i64 (0), .int .i64 (0), .int .i64 (0)]), none⟩,
  ⟨none, .st (some 6) (.t 2) (.t 17), none⟩]
def d21_2 : Option (List (List Nat)) := none
def l21_2 : List Nat := []
theorem cd21_2 : dOk d21_2 g21_2 l21_2 = true := by kernel_rfl
def g21_3 : List G := [⟨(some 19), .ld (some 7) (.t 1), none⟩,
  ⟨(some 20), .ld (some 6) (.t 2), none⟩,
  ⟨(some 21), .call 26 [(.t 19), (.t 20)], none⟩,
  ⟨(some 18), .mv (.t 21), none⟩,
  ⟨(some 22), .ext (.t 18) 0, none⟩,
  ⟨(some 23), .ext (.t 18) 1, none⟩,
  ⟨(some 3), .mv (.t 22), none⟩,
  ⟨(some 4), .mv (.t 23), none⟩]
def d21_3 : Option (List (List Nat)) := none
def l21_3 : List Nat := []
theorem cd21_3 : dOk d21_3 g21_3 l21_3 = true := by kernel_rfl
def g21_4 : List G := [⟨(some 25), .ld (some 7) (.t 1), none⟩,
  ⟨(some 26), .ld (some 6) (.t 2), none⟩,
  ⟨(some 27), .call 12 [(.t 25), (.t 26)], none⟩,
  ⟨(some 24), .mv (.t 27), none⟩,
  ⟨(some 28), .ext (.t 24) 0, none⟩,
  ⟨(some 29), .ext (.t 24) 1, none⟩,
  ⟨(some 5), .mv (.t 28), none⟩,
  ⟨(some 6), .mv (.t 29), none⟩]
def d21_4 : Option (List (List Nat)) := none
def l21_4 : List Nat := []
theorem cd21_4 : dOk d21_4 g21_4 l21_4 = true := by kernel_rfl
def g21_5 : List G := [⟨(some 31), .ld (some 7) (.t 1), none⟩,
  ⟨(some 32), .ld (some 6) (.t 2), none⟩,
  ⟨(some 33), .bld [.int .i64 (0), .int .i64 (0), .int .i64 (0), .int .i64 (0), .int .i64 (0), .int .i64 (0)] [(0, (.c (.int .i64 (16)))), (1, (.c (.int .i64 (1)))), (2, (.c (.int .i64 (1)))), (3, (.c (.int .i64 (1)))), (4, (.c (.int .i64 (1)))), (5, (.c (.int .i64 (1))))], none⟩,
  ⟨(some 34), .bs 1 [(.c (.int .i64 (0)))], none⟩,
  ⟨(some 35), .call 14 [(.t 31), (.t 32), (.t 33), (.t 34)], none⟩,
  ⟨(some 30), .mv (.t 35), none⟩,
  ⟨(some 36), .ext (.t 30) 0, none⟩,
  ⟨(some 37), .ext (.t 30) 1, none⟩,
  ⟨(some 7), .mv (.t 36), none⟩,
  ⟨(some 8), .mv (.t 37), none⟩]
def d21_5 : Option (List (List Nat)) := none
def l21_5 : List Nat := []
theorem cd21_5 : dOk d21_5 g21_5 l21_5 = true := by kernel_rfl
def g21_6 : List G := [⟨(some 39), .ld (some 7) (.t 1), none⟩,
  ⟨(some 40), .call 55 [(.t 39)], none⟩,
  ⟨(some 38), .mv (.t 40), none⟩,
  ⟨(some 41), .ext (.t 38) 0, none⟩,
  ⟨(some 42), .ext (.t 38) 1, none⟩,
  ⟨(some 9), .alloc (.agg [.int .i64 (0), .int .i64 (0), .int .i64 (0), .int .i64 (0), .int .i64 (0), .int .i64 (0)]), none⟩,
  ⟨none, .st (some 6) (.t 9) (.t 41), none⟩,
  ⟨(some 10), .mv (.t 42), none⟩]
def d21_6 : Option (List (List Nat)) := none
def l21_6 : List Nat := []
theorem cd21_6 : dOk d21_6 g21_6 l21_6 = true := by kernel_rfl
def g21_7 : List G := [⟨(some 44), .fa 0 0 (.t 1), none⟩,
  ⟨(some 45), .ld (some 5) (.t 44), none⟩,
  ⟨(some 46), .bld [.int .i64 (0), .int .i64 (0), .int .i64 (0), .int .i64 (0), .int .i64 (0), .int .i64 (0)] [(0, (.c (.int .i64 (2)))), (1, (.c (.int .i64 (1)))), (2, (.c (.int .i64 (0)))), (3, (.c (.int .i64 (0)))), (4, (.c (.int .i64 (0)))), (5, (.c (.int .i64 (0))))], none⟩,
  ⟨(some 47), .bld [.int .i64 (0), .int .i64 (0), .int .i64 (0), .int .i64 (0), .int .i64 (0), .int .i64 (0)] [(0, (.c (.int .i64 (3)))), (1, (.c (.int .i64 (2)))), (2, (.c (.int .i64 (0)))), (3, (.c (.int .i64 (0)))), (4, (.c (.int .i64 (0)))), (5, (.c (.int .i64 (0))))], none⟩,
  ⟨(some 48), .call 36 [(.t 45), (.t 46), (.t 47)], none⟩,
  ⟨(some 43), .mv (.t 48), none⟩,
  ⟨(some 49), .ext (.t 43) 0, none⟩,
  ⟨(some 50), .ext (.t 43) 1, none⟩,
  ⟨(some 11), .mv (.t 49), none⟩,
  ⟨(some 12), .mv (.t 50), none⟩]
def d21_7 : Option (List (List Nat)) := none
def l21_7 : List Nat := []
theorem cd21_7 : dOk d21_7 g21_7 l21_7 = true := by kernel_rfl
def g21_8 : List G := [⟨(some 52), .fa 0 0 (.t 1), none⟩,
  ⟨(some 53), .ld (some 5) (.t 52), none⟩,
  ⟨(some 54), .bld [.int .i64 (0), .int .i64 (0), .int .i64 (0), .int .i64 (0), .int .i64 (0), .int .i64 (0)] [(0, (.c (.int .i64 (3)))), (1, (.c (.int .i64 (1)))), (2, (.c (.int .i64 (0)))), (3, (.c (.int .i64 (0)))), (4, (.c (.int .i64 (0)))), (5, (.c (.int .i64 (0))))], none⟩,
  ⟨(some 55), .bs 1 [(.c (.int .i64 (1))), (.c (.int .i64 (0)))], none⟩,
  ⟨(some 56), .call 19 [(.t 53), (.t 54), (.t 55)], none⟩,
  ⟨(some 51), .mv (.t 56), none⟩,
  ⟨(some 57), .ext (.t 51) 0, none⟩,
  ⟨(some 58), .ext (.t 51) 1, none⟩,
  ⟨(some 13), .alloc (.agg [.int .i64 (0), .int .i64 (0), .int .i64 (0), .int .i64 (0), .int .i64 (0), .int .i64 (0)]), none⟩,
  ⟨none, .st (some 6) (.t 13) (.t 57), none⟩,
  ⟨(some 14), .mv (.t 58), none⟩]
def d21_8 : Option (List (List Nat)) := none
def l21_8 : List Nat := []
theorem cd21_8 : dOk d21_8 g21_8 l21_8 = true := by kernel_rfl
def g21_9 : List G := [⟨(some 59), .mv (.t 4), none⟩,
  ⟨(some 60), .bin .eql (.t 59) (.c (.int .i64 (0))), none⟩,
  ⟨(some 61), .mv (.t 60), none⟩,
  ⟨(some 62), .mv (.t 6), some (61, true)⟩,
  ⟨(some 63), .bin .eql (.t 62) (.c (.int .i64 (0))), some (61, true)⟩,
  ⟨(some 64), .pick (.t 61) (.t 63) (.c (.bool false)), none⟩,
  ⟨(some 65), .mv (.t 64), none⟩,
  ⟨(some 66), .mv (.t 8), some (65, true)⟩,
  ⟨(some 67), .bin .eql (.t 66) (.c (.int .i64 (0))), some (65, true)⟩,
  ⟨(some 68), .pick (.t 65) (.t 67) (.c (.bool false)), none⟩,
  ⟨(some 69), .mv (.t 68), none⟩,
  ⟨(some 70), .mv (.t 10), some (69, true)⟩,
  ⟨(some 71), .bin .eql (.t 70) (.c (.int .i64 (0))), some (69, true)⟩,
  ⟨(some 72), .pick (.t 69) (.t 71) (.c (.bool false)), none⟩,
  ⟨(some 73), .mv (.t 72), none⟩,
  ⟨(some 74), .mv (.t 12), some (73, true)⟩,
  ⟨(some 75), .bin .eql (.t 74) (.c (.int .i64 (0))), some (73, true)⟩,
  ⟨(some 76), .pick (.t 73) (.t 75) (.c (.bool false)), none⟩,
  ⟨(some 77), .mv (.t 76), none⟩,
  ⟨(some 78), .mv (.t 14), some (77, true)⟩,
  ⟨(some 79), .bin .eql (.t 78) (.c (.int .i64 (0))), some (77, true)⟩,
  ⟨(some 80), .pick (.t 77) (.t 79) (.c (.bool false)), none⟩,
  ⟨(some 15), .mv (.t 80), none⟩]
def d21_9 : Option (List (List Nat)) := none
def l21_9 : List Nat := []
theorem cd21_9 : dOk d21_9 g21_9 l21_9 = true := by kernel_rfl
def g21_10 : List G := [⟨(some 81), .mv (.t 15), none⟩,
  ⟨(some 82), .mv (.t 81), none⟩,
  ⟨(some 83), .mv (.t 3), some (82, true)⟩,
  ⟨(some 84), .bs 1 [(.c (.int .i64 (1))), (.c (.int .i64 (2))), (.c (.int .i64 (3)))], some (82, true)⟩,
  ⟨(some 85), .call 16 [(.t 83), (.t 84)], some (82, true)⟩,
  ⟨(some 86), .pick (.t 82) (.t 85) (.c (.bool false)), none⟩,
  ⟨(some 87), .mv (.t 86), none⟩,
  ⟨(some 88), .mv (.t 5), some (87, true)⟩,
  ⟨(some 89), .bs 1 [(.c (.int .i64 (0)))], some (87, true)⟩,
  ⟨(some 90), .call 16 [(.t 88), (.t 89)], some (87, true)⟩,
  ⟨(some 91), .pick (.t 87) (.t 90) (.c (.bool false)), none⟩,
  ⟨(some 92), .mv (.t 91), none⟩,
  ⟨(some 93), .mv (.t 7), some (92, true)⟩,
  ⟨(some 94), .bs 1 [(.c (.int .i64 (3)))], some (92, true)⟩,
  ⟨(some 95), .call 16 [(.t 93), (.t 94)], some (92, true)⟩,
  ⟨(some 96), .pick (.t 92) (.t 95) (.c (.bool false)), none⟩,
  ⟨(some 97), .mv (.t 96), none⟩,
  ⟨(some 98), .ld (some 6) (.t 9), some (97, true)⟩,
  ⟨(some 99), .bld [.int .i64 (0), .int .i64 (0), .int .i64 (0), .int .i64 (0), .int .i64 (0), .int .i64 (0)] [(0, (.c (.int .i64 (0)))), (1, (.c (.int .i64 (0)))), (2, (.c (.int .i64 (0)))), (3, (.c (.int .i64 (0)))), (4, (.c (.int .i64 (0)))), (5, (.c (.int .i64 (2))))], some (97, true)⟩,
  ⟨(some 100), .eqv (.ar 6 (.i .i64)) false (.t 98) (.t 99), some (97, true)⟩,
  ⟨(some 101), .pick (.t 97) (.t 100) (.c (.bool false)), none⟩,
  ⟨(some 102), .mv (.t 101), none⟩,
  ⟨(some 103), .mv (.t 11), some (102, true)⟩,
  ⟨(some 104), .bin .eql (.t 103) (.c (.int .i64 (2))), some (102, true)⟩,
  ⟨(some 105), .pick (.t 102) (.t 104) (.c (.bool false)), none⟩,
  ⟨(some 106), .mv (.t 105), none⟩,
  ⟨(some 107), .ld (some 6) (.t 13), some (106, true)⟩,
  ⟨(some 108), .bld [.int .i64 (0), .int .i64 (0), .int .i64 (0), .int .i64 (0), .int .i64 (0), .int .i64 (0)] [(0, (.c (.int .i64 (16)))), (1, (.c (.int .i64 (1)))), (2, (.c (.int .i64 (1)))), (3, (.c (.int .i64 (1)))), (4, (.c (.int .i64 (1)))), (5, (.c (.int .i64 (1))))], some (106, true)⟩,
  ⟨(some 109), .eqv (.ar 6 (.i .i64)) false (.t 107) (.t 108), some (106, true)⟩,
  ⟨(some 110), .pick (.t 106) (.t 109) (.c (.bool false)), none⟩,
  ⟨(some 0), .mv (.t 110), none⟩]
def d21_10 : Option (List (List Nat)) := none
def l21_10 : List Nat := []
theorem cd21_10 : dOk d21_10 g21_10 l21_10 = true := by kernel_rfl
def c21 : AC := (.seq (.reg d21_0 g21_0) (.seq (.reg d21_1 g21_1) (.seq (.reg d21_2 g21_2) (.seq (.reg d21_3 g21_3) (.seq (.reg d21_4 g21_4) (.seq (.reg d21_5 g21_5) (.seq (.reg d21_6 g21_6) (.seq (.reg d21_7 g21_7) (.seq (.reg d21_8 g21_8) (.seq (.reg d21_9 g21_9) (.seq (.reg d21_10 g21_10) .ret)))))))))))
def r21 : List RV := [.tmp 0]
theorem cc21 : (Try.f21.body.bind (cCode Try.prog Try.f21.ntmps)) = some c21 := by kernel_rfl
theorem cr21 : cRes Try.prog Try.f21.results.toList = some r21 := by kernel_rfl
theorem ca21 : callable Try.prog 21 = true := by kernel_rfl
def g22_0 : List G := [⟨(some 2), .alloc (.agg [.agg [.int .i64 (0), .int .i64 (0), .int .i64 (0), .int .i64 (0), .int .i64 (0)], .int .i64 (0), .nils 7]), none⟩]
def d22_0 : Option (List (List Nat)) := none
def l22_0 : List Nat := []
theorem cd22_0 : dOk d22_0 g22_0 l22_0 = true := by kernel_rfl
def g22_1 : List G := [⟨(some 7), .mv (.t 0), none⟩,
  ⟨(some 8), .call 34 [(.t 7)], none⟩,
  ⟨(some 9), .mv (.t 0), none⟩,
  ⟨(some 10), .call 25 [(.t 9), (.c (.int .i64 (5)))], none⟩,
  ⟨(some 11), .call 23 [(.t 10), (.c (.int .i64 (2)))], none⟩,
  ⟨(some 12), .bld [.agg [.int .i64 (0), .int .i64 (0), .int .i64 (0), .int .i64 (0), .int .i64 (0)], .int .i64 (0), .nils 7] [(0, (.t 8)), (1, (.t 11))], none⟩,
  ⟨(some 3), .alloc (.agg [.agg [.int .i64 (0), .int .i64 (0), .int .i64 (0), .int .i64 (0), .int .i64 (0)], .int .i64 (0), .nils 7]), none⟩,
  ⟨none, .st (some 7) (.t 3) (.t 12), none⟩]
def d22_1 : Option (List (List Nat)) := none
def l22_1 : List Nat := []
theorem cd22_1 : dOk d22_1 g22_1 l22_1 = true := by kernel_rfl
def g22_2 : List G := [⟨(some 4), .mv (.c (.int .i64 (0))), none⟩]
def d22_2 : Option (List (List Nat)) := none
def l22_2 : List Nat := []
theorem cd22_2 : dOk d22_2 g22_2 l22_2 = true := by kernel_rfl
def g22_3 : List G := [⟨(some 5), .mv (.c (.int .i64 (0))), none⟩]
def d22_3 : Option (List (List Nat)) := none
def l22_3 : List Nat := []
theorem cd22_3 : dOk d22_3 g22_3 l22_3 = true := by kernel_rfl
def g22_4 : List G := [⟨(some 13), .mv (.t 5), none⟩,
  ⟨(some 14), .mv (.t 0), none⟩,
  ⟨(some 15), .len (.t 14), none⟩,
  ⟨(some 16), .bin .lss (.t 13) (.t 15), none⟩,
  ⟨(some 17), .mv (.t 16), none⟩,
  ⟨(some 18), .mv (.t 5), some (17, true)⟩,
  ⟨(some 19), .bin .lss (.t 18) (.c (.int .i64 (12))), some (17, true)⟩,
  ⟨(some 20), .pick (.t 17) (.t 19) (.c (.bool false)), none⟩,
  ⟨(some 21), .mv (.t 20), none⟩,
  ⟨(some 22), .fa 2 6 (.t 3), some (21, true)⟩,
  ⟨(some 23), .ld none (.t 22), some (21, true)⟩,
  ⟨(some 24), .len (.t 23), some (21, true)⟩,
  ⟨(some 25), .bin .lss (.t 24) (.c (.int .i64 (9))), some (21, true)⟩,
  ⟨(some 26), .pick (.t 21) (.t 25) (.c (.bool false)), none⟩]
def d22_4 : Option (List (List Nat)) := none
def l22_4 : List Nat := []
theorem cd22_4 : dOk d22_4 g22_4 l22_4 = true := by kernel_rfl
def g22_5 : List G := [⟨(some 29), .mv (.t 4), none⟩,
  ⟨(some 30), .mv (.t 0), none⟩,
  ⟨(some 31), .mv (.t 5), none⟩,
  ⟨(some 32), .is 1 (.t 30) (.t 31), none⟩,
  ⟨(some 33), .ld none (.t 32), none⟩,
  ⟨(some 34), .call 23 [(.t 33), (.c (.int .i64 (4)))], none⟩,
  ⟨(some 35), .bin .add (.c (.int .i64 (1))) (.t 34), none⟩,
  ⟨(some 36), .bin .add (.t 29) (.t 35), none⟩,
  ⟨(some 4), .mv (.t 36), none⟩]
def d22_5 : Option (List (List Nat)) := none
def l22_5 : List Nat := []
theorem cd22_5 : dOk d22_5 g22_5 l22_5 = true := by kernel_rfl
def g22_6 : List G := [⟨(some 37), .mv (.t 4), none⟩,
  ⟨(some 38), .mv (.t 0), none⟩,
  ⟨(some 39), .mv (.t 5), none⟩,
  ⟨(some 40), .is 1 (.t 38) (.t 39), none⟩,
  ⟨(some 41), .ld none (.t 40), none⟩,
  ⟨(some 42), .bin .mul (.t 41) (.c (.int .i64 (7))), none⟩,
  ⟨(some 43), .mv (.t 5), none⟩,
  ⟨(some 44), .bin .mul (.t 43) (.c (.int .i64 (2503))), none⟩,
  ⟨(some 45), .bin .add (.t 42) (.t 44), none⟩,
  ⟨(some 46), .call 23 [(.t 45), (.c (.int .i64 (15625)))], none⟩,
  ⟨(some 47), .call 35 [(.t 46)], none⟩,
  ⟨(some 48), .bld [.int .i64 (0), .agg [.int .i64 (0), .int .i64 (0), .int .i64 (0), .int .i64 (0), .int .i64 (0), .int .i64 (0)]] [(0, (.t 37)), (1, (.t 47))], none⟩,
  ⟨(some 6), .alloc (.agg [.int .i64 (0), .agg [.int .i64 (0), .int .i64 (0), .int .i64 (0), .int .i64 (0), .int .i64 (0), .int .i64 (0)]]), none⟩,
  ⟨none, .st (some 7) (.t 6) (.t 48), none⟩]
def d22_6 : Option (List (List Nat)) := none
def l22_6 : List Nat := []
theorem cd22_6 : dOk d22_6 g22_6 l22_6 = true := by kernel_rfl
def g22_7 : List G := [⟨(some 49), .ld (some 7) (.t 3), none⟩,
  ⟨(some 50), .fa 1 1 (.t 6), none⟩,
  ⟨(some 51), .ld (some 6) (.t 50), none⟩,
  ⟨(some 52), .call 83 [(.t 49), (.t 51)], none⟩,
  ⟨(some 53), .un .not (.t 52), none⟩]
def d22_7 : Option (List (List Nat)) := none
def l22_7 : List Nat := []
theorem cd22_7 : dOk d22_7 g22_7 l22_7 = true := by kernel_rfl
def g22_8 : List G := [⟨(some 54), .fa 2 6 (.t 3), none⟩,
  ⟨(some 55), .ld none (.t 54), none⟩,
  ⟨(some 56), .ld (some 7) (.t 6), none⟩,
  ⟨(some 57), .bs 7 [(.t 56)], none⟩,
  ⟨(some 58), .app 43 7 56 (.agg [.int .i64 (0), .agg [.int .i64 (0), .int .i64 (0), .int .i64 (0), .int .i64 (0), .int .i64 (0), .int .i64 (0)]]) (.t 55) (.t 57), none⟩,
  ⟨(some 59), .fa 2 6 (.t 3), none⟩,
  ⟨none, .st none (.t 59) (.t 58), none⟩]
def d22_8 : Option (List (List Nat)) := none
def l22_8 : List Nat := []
theorem cd22_8 : dOk d22_8 g22_8 l22_8 = true := by kernel_rfl
def g22_9 : List G := [⟨(some 27), .mv (.t 5), none⟩,
  ⟨(some 28), .bin .add (.t 27) (.c (.int .i64 (1))), none⟩,
  ⟨(some 5), .mv (.t 28), none⟩]
def d22_9 : Option (List (List Nat)) := none
def l22_9 : List Nat := []
theorem cd22_9 : dOk d22_9 g22_9 l22_9 = true := by kernel_rfl
def g22_10 : List G := [⟨(some 60), .ld (some 7) (.t 3), none⟩,
  ⟨none, .st (some 7) (.t 2) (.t 60), none⟩]
def d22_10 : Option (List (List Nat)) := none
def l22_10 : List Nat := []
theorem cd22_10 : dOk d22_10 g22_10 l22_10 = true := by kernel_rfl
def c22 : AC := (.seq (.reg d22_0 g22_0) (.seq (.reg d22_1 g22_1) (.seq (.reg d22_2 g22_2) (.seq (.seq (.reg d22_3 g22_3) (.block 0 (.loop (.seq (.seq (.reg d22_4 g22_4) (.cond (.t 26) .skip (.exit 0))) (.seq (.block 1 (.seq (.reg d22_5 g22_5) (.seq (.reg d22_6 g22_6) (.seq (.reg d22_7 g22_7) (.cond (.t 53) (.reg d22_8 g22_8) .skip))))) (.reg d22_9 g22_9)))))) (.seq (.reg d22_10 g22_10) .ret)))))
def r22 : List RV := [.cell 2 (some 7)]
theorem cc22 : (Try.f22.body.bind (cCode Try.prog Try.f22.ntmps)) = some c22 := by kernel_rfl
theorem cr22 : cRes Try.prog Try.f22.results.toList = some r22 := by kernel_rfl
theorem ca22 : callable Try.prog 22 = true := by kernel_rfl
def g23_0 : List G := [⟨(some 4), .mv (.c (.int .i64 (0))), none⟩]
def d23_0 : Option (List (List Nat)) := none
def l23_0 : List Nat := []
theorem cd23_0 : dOk d23_0 g23_0 l23_0 = true := by kernel_rfl
def g23_1 : List G := [⟨(some 5), .mv (.t 0), none⟩,
  ⟨(some 6), .mv (.t 1), none⟩,
  ⟨(some 7), .bin .rem (.t 5) (.t 6), none⟩,
  ⟨(some 8), .mv (.t 1), none⟩,
  ⟨(some 9), .bin .add (.t 7) (.t 8), none⟩,
  ⟨(some 10), .mv (.t 1), none⟩,
  ⟨(some 11), .bin .rem (.t 9) (.t 10), none⟩,
  ⟨(some 4), .mv (.t 11), none⟩]
def d23_1 : Option (List (List Nat)) := none
def l23_1 : List Nat := []
theorem cd23_1 : dOk d23_1 g23_1 l23_1 = true := by kernel_rfl
def c23 : AC := (.seq (.reg d23_0 g23_0) (.seq (.reg d23_1 g23_1) .ret))
def r23 : List RV := [.tmp 4]
theorem cc23 : (Try.f23.body.bind (cCode Try.prog Try.f23.ntmps)) = some c23 := by kernel_rfl
theorem cr23 : cRes Try.prog Try.f23.results.toList = some r23 := by kernel_rfl
theorem ca23 : callable Try.prog 23 = true := by kernel_rfl
def g25_0 : List G := [⟨(some 4), .mv (.c (.int .i64 (0))), none⟩]
def d25_0 : Option (List (List Nat)) := none
def l25_0 : List Nat := []
theorem cd25_0 : dOk d25_0 g25_0 l25_0 = true := by kernel_rfl
def g25_1 : List G := [⟨(some 5), .mv (.t 0), none⟩,
  ⟨(some 6), .len (.t 5), none⟩,
  ⟨(some 7), .bin .eql (.t 6) (.c (.int .i64 (0))), none⟩]
def d25_1 : Option (List (List Nat)) := none
def l25_1 : List Nat := []
theorem cd25_1 : dOk d25_1 g25_1 l25_1 = true := by kernel_rfl
def g25_2 : List G := [⟨(some 4), .mv (.c (.int .i64 (0))), none⟩]
def d25_2 : Option (List (List Nat)) := none
def l25_2 : List Nat := []
theorem cd25_2 : dOk d25_2 g25_2 l25_2 = true := by kernel_rfl
def g25_3 : List G := [⟨(some 8), .mv (.t 0), none⟩,
  ⟨(some 9), .mv (.t 1), none⟩,
  ⟨(some 10), .mv (.t 0), none⟩,
  ⟨(some 11), .len (.t 10), none⟩,
  ⟨(some 12), .call 23 [(.t 9), (.t 11)], none⟩,
  ⟨(some 13), .is 1 (.t 8) (.t 12), none⟩,
  ⟨(some 14), .ld none (.t 13), none⟩,
  ⟨(some 4), .mv (.t 14), none⟩]
def d25_3 : Option (List (List Nat)) := none
def l25_3 : List Nat := []
theorem cd25_3 : dOk d25_3 g25_3 l25_3 = true := by kernel_rfl
def c25 : AC := (.seq (.reg d25_0 g25_0) (.seq (.seq (.reg d25_1 g25_1) (.cond (.t 7) (.seq (.reg d25_2 g25_2) .ret) .skip)) (.seq (.reg d25_3 g25_3) .ret)))
def r25 : List RV := [.tmp 4]
theorem cc25 : (Try.f25.body.bind (cCode Try.prog Try.f25.ntmps)) = some c25 := by kernel_rfl
theorem cr25 : cRes Try.prog Try.f25.results.toList = some r25 := by kernel_rfl
theorem ca25 : callable Try.prog 25 = true := by kernel_rfl
def g26_0 : List G := [⟨(some 2), .box (.t 0), none⟩,
  ⟨(some 3), .box (.t 1), none⟩,
  ⟨(some 4), .mv (.c (.nils 1)), none⟩,
  ⟨(some 5), .mv (.c (.int .i64 (0))), none⟩]
def d26_0 : Option (List (List Nat)) := none
def l26_0 : List Nat := []
theorem cd26_0 : dOk d26_0 g26_0 l26_0 = true := by kernel_rfl
def g26_1 : List G := [⟨(some 7), .ld (some 7) (.t 2), none⟩,
  ⟨(some 8), .call 47 [(.t 7)], none⟩,
  ⟨(some 9), .ld (some 6) (.t 3), none⟩,
  ⟨(some 10), .call 45 [(.t 9)], none⟩,
  ⟨(some 11), .bs 1 [(.t 8), (.t 10)], none⟩,
  ⟨(some 12), .call 64 [(.t 11)], none⟩,
  ⟨(some 6), .mv (.t 12), none⟩]
def d26_1 : Option (List (List Nat)) := (some [[], [0], [], [2, 1], [1, 3], [4, 3], [5, 5, 0, 1, 2, 3, 4, 5]])
def l26_1 : List Nat := [0, 1, 0, 7, 15, 31, 63]
theorem cd26_1 : dOk d26_1 g26_1 l26_1 = true := by kernel_rfl
def g26_2 : List G := [⟨(some 13), .mv (.t 6), none⟩,
  ⟨(some 14), .bin .neq (.t 13) (.c (.int .i64 (0))), none⟩]
def d26_2 : Option (List (List Nat)) := none
def l26_2 : List Nat := []
theorem cd26_2 : dOk d26_2 g26_2 l26_2 = true := by kernel_rfl
def g26_3 : List G := [⟨(some 15), .mv (.t 6), none⟩,
  ⟨(some 4), .mv (.c (.nils 1)), none⟩,
  ⟨(some 5), .mv (.t 15), none⟩]
def d26_3 : Option (List (List Nat)) := none
def l26_3 : List Nat := []
theorem cd26_3 : dOk d26_3 g26_3 l26_3 = true := by kernel_rfl
def g26_4 : List G := [⟨(some 16), .ld (some 7) (.t 2), none⟩,
  ⟨(some 17), .ld (some 6) (.t 3), none⟩,
  ⟨(some 18), .call 65 [(.t 16), (.t 17)], none⟩,
  ⟨(some 19), .call 72 [(.t 18)], none⟩,
  ⟨(some 4), .mv (.t 19), none⟩,
  ⟨(some 5), .mv (.c (.int .i64 (0))), none⟩]
def d26_4 : Option (List (List Nat)) := none
def l26_4 : List Nat := []
theorem cd26_4 : dOk d26_4 g26_4 l26_4 = true := by kernel_rfl
def c26 : AC := (.seq (.reg d26_0 g26_0) (.seq (.seq (.reg d26_1 g26_1) (.seq (.reg d26_2 g26_2) (.cond (.t 14) (.seq (.reg d26_3 g26_3) .ret) .skip))) (.seq (.reg d26_4 g26_4) .ret)))
def r26 : List RV := [.tmp 4, .tmp 5]
theorem cc26 : (Try.f26.body.bind (cCode Try.prog Try.f26.ntmps)) = some c26 := by kernel_rfl
theorem cr26 : cRes Try.prog Try.f26.results.toList = some r26 := by kernel_rfl
theorem ca26 : callable Try.prog 26 = true := by kernel_rfl
end Go.Proofs.Ytkjkbpgdpnapfaa

/-
  THE SEAT'S FUNCTIONS, READ (part 2): the code of each as the abstract layer reads it, by program; each tie is a closed fact.
-/
namespace Go.Proofs.Ytkjkbpgdpnapfaa
open Go Go.Abs
def g73_0 : List G := [⟨(some 4), .mv (.c (.nils 7)), none⟩]
def d73_0 : Option (List (List Nat)) := none
def l73_0 : List Nat := []
theorem cd73_0 : dOk d73_0 g73_0 l73_0 = true := by kernel_rfl
def g73_1 : List G := [⟨(some 8), .mv (.t 0), none⟩,
  ⟨(some 9), .mv (.t 1), none⟩,
  ⟨(some 10), .call 108 [(.t 8), (.t 9)], none⟩,
  ⟨(some 5), .mv (.t 10), none⟩]
def d73_1 : Option (List (List Nat)) := none
def l73_1 : List Nat := []
theorem cd73_1 : dOk d73_1 g73_1 l73_1 = true := by kernel_rfl
def g73_2 : List G := [⟨(some 11), .mv (.t 5), none⟩,
  ⟨(some 12), .bin .eql (.t 11) (.c (.int .i64 (-1))), none⟩]
def d73_2 : Option (List (List Nat)) := none
def l73_2 : List Nat := []
theorem cd73_2 : dOk d73_2 g73_2 l73_2 = true := by kernel_rfl
def g73_3 : List G := [⟨(some 13), .mv (.t 0), none⟩,
  ⟨(some 4), .mv (.t 13), none⟩]
def d73_3 : Option (List (List Nat)) := none
def l73_3 : List Nat := []
theorem cd73_3 : dOk d73_3 g73_3 l73_3 = true := by kernel_rfl
def g73_4 : List G := [⟨(some 14), .mv (.t 5), none⟩,
  ⟨(some 15), .bin .add (.t 14) (.c (.int .i64 (1))), none⟩,
  ⟨(some 6), .mv (.t 15), none⟩]
def d73_4 : Option (List (List Nat)) := none
def l73_4 : List Nat := []
theorem cd73_4 : dOk d73_4 g73_4 l73_4 = true := by kernel_rfl
def g73_5 : List G := [⟨(some 16), .mv (.t 6), none⟩,
  ⟨(some 17), .mv (.t 0), none⟩,
  ⟨(some 18), .len (.t 17), none⟩,
  ⟨(some 19), .bin .lss (.t 16) (.t 18), none⟩]
def d73_5 : Option (List (List Nat)) := none
def l73_5 : List Nat := []
theorem cd73_5 : dOk d73_5 g73_5 l73_5 = true := by kernel_rfl
def g73_6 : List G := [⟨(some 22), .mv (.t 0), none⟩,
  ⟨(some 23), .mv (.t 6), none⟩,
  ⟨(some 24), .is 7 (.t 22) (.t 23), none⟩,
  ⟨(some 25), .ld (some 7) (.t 24), none⟩,
  ⟨(some 7), .alloc (.agg [.int .i64 (0), .agg [.int .i64 (0), .int .i64 (0), .int .i64 (0), .int .i64 (0), .int .i64 (0), .int .i64 (0)]]), none⟩,
  ⟨none, .st (some 7) (.t 7) (.t 25), none⟩]
def d73_6 : Option (List (List Nat)) := none
def l73_6 : List Nat := []
theorem cd73_6 : dOk d73_6 g73_6 l73_6 = true := by kernel_rfl
def g73_7 : List G := [⟨(some 26), .mv (.t 1), none⟩,
  ⟨(some 27), .ld (some 7) (.t 7), none⟩,
  ⟨(some 28), .callv (.t 26) [(.t 27)], none⟩,
  ⟨(some 29), .un .not (.t 28), none⟩]
def d73_7 : Option (List (List Nat)) := none
def l73_7 : List Nat := []
theorem cd73_7 : dOk d73_7 g73_7 l73_7 = true := by kernel_rfl
def g73_8 : List G := [⟨(some 30), .mv (.t 0), none⟩,
  ⟨(some 31), .mv (.t 5), none⟩,
  ⟨(some 32), .ld (some 7) (.t 7), none⟩,
  ⟨(some 33), .is 7 (.t 30) (.t 31), none⟩,
  ⟨none, .st (some 7) (.t 33) (.t 32), none⟩]
def d73_8 : Option (List (List Nat)) := none
def l73_8 : List Nat := []
theorem cd73_8 : dOk d73_8 g73_8 l73_8 = true := by kernel_rfl
def g73_9 : List G := [⟨(some 34), .mv (.t 5), none⟩,
  ⟨(some 35), .bin .add (.t 34) (.c (.int .i64 (1))), none⟩,
  ⟨(some 5), .mv (.t 35), none⟩]
def d73_9 : Option (List (List Nat)) := none
def l73_9 : List Nat := []
theorem cd73_9 : dOk d73_9 g73_9 l73_9 = true := by kernel_rfl
def g73_10 : List G := [⟨(some 20), .mv (.t 6), none⟩,
  ⟨(some 21), .bin .add (.t 20) (.c (.int .i64 (1))), none⟩,
  ⟨(some 6), .mv (.t 21), none⟩]
def d73_10 : Option (List (List Nat)) := none
def l73_10 : List Nat := []
theorem cd73_10 : dOk d73_10 g73_10 l73_10 = true := by kernel_rfl
def g73_11 : List G := [⟨(some 36), .mv (.t 0), none⟩,
  ⟨(some 37), .mv (.t 5), none⟩,
  ⟨(some 38), .sl 7 (.t 36) (some (.t 37)) none none, none⟩,
  ⟨none, .clr 7 (.agg [.int .i64 (0), .agg [.int .i64 (0), .int .i64 (0), .int .i64 (0), .int .i64 (0), .int .i64 (0), .int .i64 (0)]]) (.t 38), none⟩]
def d73_11 : Option (List (List Nat)) := none
def l73_11 : List Nat := []
theorem cd73_11 : dOk d73_11 g73_11 l73_11 = true := by kernel_rfl
def g73_12 : List G := [⟨(some 39), .mv (.t 0), none⟩,
  ⟨(some 40), .mv (.t 5), none⟩,
  ⟨(some 41), .sl 7 (.t 39) none (some (.t 40)) none, none⟩,
  ⟨(some 4), .mv (.t 41), none⟩]
def d73_12 : Option (List (List Nat)) := none
def l73_12 : List Nat := []
theorem cd73_12 : dOk d73_12 g73_12 l73_12 = true := by kernel_rfl
def c73 : AC := (.seq (.reg d73_0 g73_0) (.seq (.reg d73_1 g73_1) (.seq (.seq (.reg d73_2 g73_2) (.cond (.t 12) (.seq (.reg d73_3 g73_3) .ret) .skip)) (.seq (.seq (.reg d73_4 g73_4) (.block 0 (.loop (.seq (.seq (.reg d73_5 g73_5) (.cond (.t 19) .skip (.exit 0))) (.seq (.block 1 (.seq (.reg d73_6 g73_6) (.seq (.reg d73_7 g73_7) (.cond (.t 29) (.seq (.reg d73_8 g73_8) (.reg d73_9 g73_9)) .skip)))) (.reg d73_10 g73_10)))))) (.seq (.reg d73_11 g73_11) (.seq (.reg d73_12 g73_12) .ret))))))
def r73 : List RV := [.tmp 4]
theorem cc73 : (Try.f73.body.bind (cCode Try.prog Try.f73.ntmps)) = some c73 := by kernel_rfl
theorem cr73 : cRes Try.prog Try.f73.results.toList = some r73 := by kernel_rfl
theorem ca73 : callable Try.prog 73 = true := by kernel_rfl
def g74_0 : List G := [⟨(some 4), .box (.t 0), none⟩,
  ⟨(some 5), .mv (.c (.bool false)), none⟩]
def d74_0 : Option (List (List Nat)) := none
def l74_0 : List Nat := []
theorem cd74_0 : dOk d74_0 g74_0 l74_0 = true := by kernel_rfl
def g74_1 : List G := [⟨(some 6), .ld none (.t 1), none⟩,
  ⟨(some 7), .mk 76 [(.t 2), (.t 4), (.t 3)], none⟩,
  ⟨(some 8), .call 75 [(.t 6), (.t 7)], none⟩,
  ⟨(some 5), .mv (.t 8), none⟩]
def d74_1 : Option (List (List Nat)) := none
def l74_1 : List Nat := []
theorem cd74_1 : dOk d74_1 g74_1 l74_1 = true := by kernel_rfl
def c74 : AC := (.seq (.reg d74_0 g74_0) (.seq (.reg d74_1 g74_1) .ret))
def r74 : List RV := [.tmp 5]
theorem cc74 : (Try.f74.body.bind (cCode Try.prog Try.f74.ntmps)) = some c74 := by kernel_rfl
theorem cr74 : cRes Try.prog Try.f74.results.toList = some r74 := by kernel_rfl
theorem ca74 : callable Try.prog 74 = true := by kernel_rfl
def g75_0 : List G := [⟨(some 4), .mv (.c (.bool false)), none⟩]
def d75_0 : Option (List (List Nat)) := none
def l75_0 : List Nat := []
theorem cd75_0 : dOk d75_0 g75_0 l75_0 = true := by kernel_rfl
def g75_1 : List G := [⟨(some 5), .mv (.t 0), none⟩,
  ⟨(some 6), .mv (.t 1), none⟩,
  ⟨(some 7), .call 109 [(.t 5), (.t 6)], none⟩,
  ⟨(some 8), .bin .geq (.t 7) (.c (.int .i64 (0))), none⟩,
  ⟨(some 4), .mv (.t 8), none⟩]
def d75_1 : Option (List (List Nat)) := none
def l75_1 : List Nat := []
theorem cd75_1 : dOk d75_1 g75_1 l75_1 = true := by kernel_rfl
def c75 : AC := (.seq (.reg d75_0 g75_0) (.seq (.reg d75_1 g75_1) .ret))
def r75 : List RV := [.tmp 4]
theorem cc75 : (Try.f75.body.bind (cCode Try.prog Try.f75.ntmps)) = some c75 := by kernel_rfl
theorem cr75 : cRes Try.prog Try.f75.results.toList = some r75 := by kernel_rfl
theorem ca75 : callable Try.prog 75 = true := by kernel_rfl
def g76_0 : List G := [⟨(some 5), .mv (.c (.bool false)), none⟩]
def d76_0 : Option (List (List Nat)) := none
def l76_0 : List Nat := []
theorem cd76_0 : dOk d76_0 g76_0 l76_0 = true := by kernel_rfl
def g76_1 : List G := [⟨(some 6), .fa 0 0 (.t 1), none⟩,
  ⟨(some 7), .ld (some 5) (.t 6), none⟩,
  ⟨(some 8), .fa 1 1 (.t 2), none⟩,
  ⟨(some 9), .ld (some 6) (.t 8), none⟩,
  ⟨(some 10), .mv (.t 0), none⟩,
  ⟨(some 11), .call 77 [(.t 7), (.t 9), (.t 10)], none⟩,
  ⟨(some 12), .mv (.t 0), none⟩,
  ⟨(some 13), .ia 6 1 (.t 3) (.t 12), none⟩,
  ⟨(some 14), .ld none (.t 13), none⟩,
  ⟨(some 15), .call 78 [(.t 11), (.t 14)], none⟩,
  ⟨(some 16), .un .not (.t 15), none⟩,
  ⟨(some 5), .mv (.t 16), none⟩]
def d76_1 : Option (List (List Nat)) := (some [[], [0], [], [2], [], [1, 3, 4], [], [6], [7], [5, 8, 5], [9], [10, 9, 0, 1, 2, 3, 4, 5, 6, 7, 8, 9, 10]])
def l76_1 : List Nat := [0, 1, 0, 4, 0, 31, 0, 64, 192, 511, 1023, 2047]
theorem cd76_1 : dOk d76_1 g76_1 l76_1 = true := by kernel_rfl
def c76 : AC := (.seq (.reg d76_0 g76_0) (.seq (.reg d76_1 g76_1) .ret))
def r76 : List RV := [.tmp 5]
theorem cc76 : (Try.f76.body.bind (cCode Try.prog Try.f76.ntmps)) = some c76 := by kernel_rfl
theorem cr76 : cRes Try.prog Try.f76.results.toList = some r76 := by kernel_rfl
theorem ca76 : callable Try.prog 76 = true := by kernel_rfl
def g77_0 : List G := [⟨(some 3), .box (.t 0), none⟩,
  ⟨(some 4), .box (.t 1), none⟩,
  ⟨(some 6), .mv (.c (.int .i64 (0))), none⟩]
def d77_0 : Option (List (List Nat)) := none
def l77_0 : List Nat := []
theorem cd77_0 : dOk d77_0 g77_0 l77_0 = true := by kernel_rfl
def g77_1 : List G := [⟨(some 7), .mv (.t 2), none⟩,
  ⟨(some 8), .ia 6 1 (.t 4) (.t 7), none⟩,
  ⟨(some 9), .ld none (.t 8), none⟩,
  ⟨(some 10), .ia 5 1 (.t 3) (.t 9), none⟩,
  ⟨(some 11), .ld none (.t 10), none⟩,
  ⟨(some 6), .mv (.t 11), none⟩]
def d77_1 : Option (List (List Nat)) := none
def l77_1 : List Nat := []
theorem cd77_1 : dOk d77_1 g77_1 l77_1 = true := by kernel_rfl
def c77 : AC := (.seq (.reg d77_0 g77_0) (.seq (.reg d77_1 g77_1) .ret))
def r77 : List RV := [.tmp 6]
theorem cc77 : (Try.f77.body.bind (cCode Try.prog Try.f77.ntmps)) = some c77 := by kernel_rfl
theorem cr77 : cRes Try.prog Try.f77.results.toList = some r77 := by kernel_rfl
theorem ca77 : callable Try.prog 77 = true := by kernel_rfl
def g78_0 : List G := [⟨(some 4), .mv (.c (.bool false)), none⟩]
def d78_0 : Option (List (List Nat)) := none
def l78_0 : List Nat := []
theorem cd78_0 : dOk d78_0 g78_0 l78_0 = true := by kernel_rfl
def g78_1 : List G := [⟨(some 5), .mv (.t 0), none⟩,
  ⟨(some 6), .mv (.t 1), none⟩,
  ⟨(some 7), .bin .and (.t 5) (.t 6), none⟩,
  ⟨(some 8), .bin .neq (.t 7) (.c (.int .i64 (0))), none⟩,
  ⟨(some 4), .mv (.t 8), none⟩]
def d78_1 : Option (List (List Nat)) := none
def l78_1 : List Nat := []
theorem cd78_1 : dOk d78_1 g78_1 l78_1 = true := by kernel_rfl
def c78 : AC := (.seq (.reg d78_0 g78_0) (.seq (.reg d78_1 g78_1) .ret))
def r78 : List RV := [.tmp 4]
theorem cc78 : (Try.f78.body.bind (cCode Try.prog Try.f78.ntmps)) = some c78 := by kernel_rfl
theorem cr78 : cRes Try.prog Try.f78.results.toList = some r78 := by kernel_rfl
theorem ca78 : callable Try.prog 78 = true := by kernel_rfl
def g81_0 : List G := [⟨(some 2), .mv (.c (.nils 1)), none⟩]
def d81_0 : Option (List (List Nat)) := none
def l81_0 : List Nat := []
theorem cd81_0 : dOk d81_0 g81_0 l81_0 = true := by kernel_rfl
def g81_1 : List G := [⟨(some 3), .mv (.c (.nils 1)), none⟩]
def d81_1 : Option (List (List Nat)) := none
def l81_1 : List Nat := []
theorem cd81_1 : dOk d81_1 g81_1 l81_1 = true := by kernel_rfl
def g81_2 : List G := [⟨(some 5), .mv (.c (.int .i64 (0))), none⟩]
def d81_2 : Option (List (List Nat)) := none
def l81_2 : List Nat := []
theorem cd81_2 : dOk d81_2 g81_2 l81_2 = true := by kernel_rfl
def g81_3 : List G := [⟨(some 6), .bin .lss (.t 5) (.c (.int .i64 (5))), none⟩]
def d81_3 : Option (List (List Nat)) := none
def l81_3 : List Nat := []
theorem cd81_3 : dOk d81_3 g81_3 l81_3 = true := by kernel_rfl
def g81_4 : List G := [⟨(some 7), .mv (.t 5), none⟩,
  ⟨(some 4), .mv (.t 7), none⟩]
def d81_4 : Option (List (List Nat)) := none
def l81_4 : List Nat := []
theorem cd81_4 : dOk d81_4 g81_4 l81_4 = true := by kernel_rfl
def g81_5 : List G := [⟨(some 8), .mv (.t 0), none⟩,
  ⟨(some 9), .mv (.t 4), none⟩,
  ⟨(some 10), .call 110 [(.t 8), (.t 9)], none⟩]
def d81_5 : Option (List (List Nat)) := none
def l81_5 : List Nat := []
theorem cd81_5 : dOk d81_5 g81_5 l81_5 = true := by kernel_rfl
def g81_6 : List G := [⟨(some 11), .mv (.t 3), none⟩,
  ⟨(some 12), .mv (.t 4), none⟩,
  ⟨(some 13), .bs 1 [(.t 12)], none⟩,
  ⟨(some 14), .app 3 1 8 (.int .i64 (0)) (.t 11) (.t 13), none⟩,
  ⟨(some 3), .mv (.t 14), none⟩]
def d81_6 : Option (List (List Nat)) := none
def l81_6 : List Nat := []
theorem cd81_6 : dOk d81_6 g81_6 l81_6 = true := by kernel_rfl
def g81_7 : List G := [⟨(some 15), .bin .add (.t 5) (.c (.int .i64 (1))), none⟩,
  ⟨(some 5), .mv (.t 15), none⟩]
def d81_7 : Option (List (List Nat)) := none
def l81_7 : List Nat := []
theorem cd81_7 : dOk d81_7 g81_7 l81_7 = true := by kernel_rfl
def g81_8 : List G := [⟨(some 16), .mv (.t 3), none⟩,
  ⟨(some 2), .mv (.t 16), none⟩]
def d81_8 : Option (List (List Nat)) := none
def l81_8 : List Nat := []
theorem cd81_8 : dOk d81_8 g81_8 l81_8 = true := by kernel_rfl
def c81 : AC := (.seq (.reg d81_0 g81_0) (.seq (.reg d81_1 g81_1) (.seq (.seq (.reg d81_2 g81_2) (.block 0 (.loop (.seq (.reg d81_3 g81_3) (.seq (.cond (.t 6) .skip (.exit 0)) (.seq (.block 1 (.seq (.reg d81_4 g81_4) (.seq (.reg d81_5 g81_5) (.cond (.t 10) (.reg d81_6 g81_6) .skip)))) (.reg d81_7 g81_7))))))) (.seq (.reg d81_8 g81_8) .ret))))
def r81 : List RV := [.tmp 2]
theorem cc81 : (Try.f81.body.bind (cCode Try.prog Try.f81.ntmps)) = some c81 := by kernel_rfl
theorem cr81 : cRes Try.prog Try.f81.results.toList = some r81 := by kernel_rfl
theorem ca81 : callable Try.prog 81 = true := by kernel_rfl
def g82_0 : List G := [⟨(some 0), .alloc (.agg [.agg [.int .i64 (0), .int .i64 (0), .int .i64 (0), .int .i64 (0), .int .i64 (0)], .int .i64 (0), .nils 7]), none⟩]
def d82_0 : Option (List (List Nat)) := none
def l82_0 : List Nat := []
theorem cd82_0 : dOk d82_0 g82_0 l82_0 = true := by kernel_rfl
def g82_1 : List G := [⟨(some 1), .bld [.int .i64 (0), .int .i64 (0), .int .i64 (0), .int .i64 (0), .int .i64 (0)] [(0, (.c (.int .i64 (1)))), (1, (.c (.int .i64 (3)))), (2, (.c (.int .i64 (4)))), (3, (.c (.int .i64 (24)))), (4, (.c (.int .i64 (24))))], none⟩,
  ⟨(some 2), .bld [.int .i64 (0), .agg [.int .i64 (0), .int .i64 (0), .int .i64 (0), .int .i64 (0), .int .i64 (0), .int .i64 (0)]] [(0, (.c (.int .i64 (1))))], none⟩,
  ⟨(some 3), .bld [.int .i64 (0), .int .i64 (0), .int .i64 (0), .int .i64 (0), .int .i64 (0), .int .i64 (0)] [(0, (.c (.int .i64 (2)))), (1, (.c (.int .i64 (0)))), (2, (.c (.int .i64 (0)))), (3, (.c (.int .i64 (0)))), (4, (.c (.int .i64 (0)))), (5, (.c (.int .i64 (0))))], none⟩,
  ⟨(some 4), .bld [.int .i64 (0), .agg [.int .i64 (0), .int .i64 (0), .int .i64 (0), .int .i64 (0), .int .i64 (0), .int .i64 (0)]] [(0, (.c (.int .i64 (2)))), (1, (.t 3))], none⟩,
  ⟨(some 5), .bld [.int .i64 (0), .int .i64 (0), .int .i64 (0), .int .i64 (0), .int .i64 (0), .int .i64 (0)] [(0, (.c (.int .i64 (3)))), (1, (.c (.int .i64 (0)))), (2, (.c (.int .i64 (0)))), (3, (.c (.int .i64 (0)))), (4, (.c (.int .i64 (0)))), (5, (.c (.int .i64 (2))))], none⟩,
  ⟨(some 6), .bld [.int .i64 (0), .agg [.int .i64 (0), .int .i64 (0), .int .i64 (0), .int .i64 (0), .int .i64 (0), .int .i64 (0)]] [(0, (.c (.int .i64 (3)))), (1, (.t 5))], none⟩,
  ⟨(some 7), .bs 7 [(.t 2), (.t 4), (.t 6)], none⟩,
  ⟨(some 8), .bld [.agg [.int .i64 (0), .int .i64 (0), .int .i64 (0), .int .i64 (0), .int .i64 (0)], .int .i64 (0), .nils 7] [(0, (.t 1)), (2, (.t 7))], none⟩,
  ⟨none, .st (some 7) (.t 0) (.t 8), none⟩]
def d82_1 : Option (List (List Nat)) := none
def l82_1 : List Nat := []
theorem cd82_1 : dOk d82_1 g82_1 l82_1 = true := by kernel_rfl
def c82 : AC := (.seq (.reg d82_0 g82_0) (.seq (.reg d82_1 g82_1) .ret))
def r82 : List RV := [.cell 0 (some 7)]
theorem cc82 : (Try.f82.body.bind (cCode Try.prog Try.f82.ntmps)) = some c82 := by kernel_rfl
theorem cr82 : cRes Try.prog Try.f82.results.toList = some r82 := by kernel_rfl
theorem ca82 : callable Try.prog 82 = true := by kernel_rfl
def g83_0 : List G := [⟨(some 2), .box (.t 0), none⟩,
  ⟨(some 3), .box (.t 1), none⟩,
  ⟨(some 4), .mv (.c (.bool false)), none⟩]
def d83_0 : Option (List (List Nat)) := none
def l83_0 : List Nat := []
theorem cd83_0 : dOk d83_0 g83_0 l83_0 = true := by kernel_rfl
def g83_1 : List G := [⟨(some 5), .mv (.c (.int .i64 (0))), none⟩]
def d83_1 : Option (List (List Nat)) := none
def l83_1 : List Nat := []
theorem cd83_1 : dOk d83_1 g83_1 l83_1 = true := by kernel_rfl
def g83_2 : List G := [⟨(some 6), .mv (.t 5), none⟩,
  ⟨(some 7), .fa 2 6 (.t 2), none⟩,
  ⟨(some 8), .ld none (.t 7), none⟩,
  ⟨(some 9), .len (.t 8), none⟩,
  ⟨(some 10), .bin .lss (.t 6) (.t 9), none⟩]
def d83_2 : Option (List (List Nat)) := none
def l83_2 : List Nat := []
theorem cd83_2 : dOk d83_2 g83_2 l83_2 = true := by kernel_rfl
def g83_3 : List G := [⟨(some 13), .fa 0 0 (.t 2), none⟩,
  ⟨(some 14), .ld (some 5) (.t 13), none⟩,
  ⟨(some 15), .fa 2 6 (.t 2), none⟩,
  ⟨(some 16), .ld none (.t 15), none⟩,
  ⟨(some 17), .mv (.t 5), none⟩,
  ⟨(some 18), .is 7 (.t 16) (.t 17), none⟩,
  ⟨(some 19), .fa 1 1 (.t 18), none⟩,
  ⟨(some 20), .ld (some 6) (.t 19), none⟩,
  ⟨(some 21), .ld (some 6) (.t 3), none⟩,
  ⟨(some 22), .call 99 [(.t 14), (.t 20), (.t 21)], none⟩,
  ⟨(some 23), .fa 1 5 (.t 2), none⟩,
  ⟨(some 24), .ld none (.t 23), none⟩,
  ⟨(some 25), .bin .mul (.c (.int .i64 (2))) (.t 24), none⟩,
  ⟨(some 26), .bin .leq (.t 22) (.t 25), none⟩]
def d83_3 : Option (List (List Nat)) := (some [[], [0], [], [2], [], [3, 4], [5], [6], [], [1, 7, 8], [], [10], [11], [9, 12]])
def l83_3 : List Nat := [0, 1, 0, 4, 0, 28, 60, 124, 0, 511, 0, 1024, 3072, 8191]
theorem cd83_3 : dOk d83_3 g83_3 l83_3 = true := by kernel_rfl
def g83_4 : List G := [⟨(some 4), .mv (.c (.bool true)), none⟩]
def d83_4 : Option (List (List Nat)) := none
def l83_4 : List Nat := []
theorem cd83_4 : dOk d83_4 g83_4 l83_4 = true := by kernel_rfl
def g83_5 : List G := [⟨(some 11), .mv (.t 5), none⟩,
  ⟨(some 12), .bin .add (.t 11) (.c (.int .i64 (1))), none⟩,
  ⟨(some 5), .mv (.t 12), none⟩]
def d83_5 : Option (List (List Nat)) := none
def l83_5 : List Nat := []
theorem cd83_5 : dOk d83_5 g83_5 l83_5 = true := by kernel_rfl
def g83_6 : List G := [⟨(some 4), .mv (.c (.bool false)), none⟩]
def d83_6 : Option (List (List Nat)) := none
def l83_6 : List Nat := []
theorem cd83_6 : dOk d83_6 g83_6 l83_6 = true := by kernel_rfl
def c83 : AC := (.seq (.reg d83_0 g83_0) (.seq (.seq (.reg d83_1 g83_1) (.block 0 (.loop (.seq (.seq (.reg d83_2 g83_2) (.cond (.t 10) .skip (.exit 0))) (.seq (.block 1 (.seq (.reg d83_3 g83_3) (.cond (.t 26) (.seq (.reg d83_4 g83_4) .ret) .skip))) (.reg d83_5 g83_5)))))) (.seq (.reg d83_6 g83_6) .ret)))
def r83 : List RV := [.tmp 4]
theorem cc83 : (Try.f83.body.bind (cCode Try.prog Try.f83.ntmps)) = some c83 := by kernel_rfl
theorem cr83 : cRes Try.prog Try.f83.results.toList = some r83 := by kernel_rfl
theorem ca83 : callable Try.prog 83 = true := by kernel_rfl
def g85_0 : List G := [⟨(some 2), .mv (.c (.nils 7)), none⟩]
def d85_0 : Option (List (List Nat)) := none
def l85_0 : List Nat := []
theorem cd85_0 : dOk d85_0 g85_0 l85_0 = true := by kernel_rfl
def g85_1 : List G := [⟨(some 3), .mv (.t 0), none⟩,
  ⟨(some 4), .nilS false (.t 3), none⟩]
def d85_1 : Option (List (List Nat)) := none
def l85_1 : List Nat := []
theorem cd85_1 : dOk d85_1 g85_1 l85_1 = true := by kernel_rfl
def g85_2 : List G := [⟨(some 2), .mv (.c (.nils 7)), none⟩]
def d85_2 : Option (List (List Nat)) := none
def l85_2 : List Nat := []
theorem cd85_2 : dOk d85_2 g85_2 l85_2 = true := by kernel_rfl
def g85_3 : List G := [⟨(some 5), .bs0 7, none⟩,
  ⟨(some 6), .mv (.t 0), none⟩,
  ⟨(some 7), .app 43 7 56 (.agg [.int .i64 (0), .agg [.int .i64 (0), .int .i64 (0), .int .i64 (0), .int .i64 (0), .int .i64 (0), .int .i64 (0)]]) (.t 5) (.t 6), none⟩,
  ⟨(some 2), .mv (.t 7), none⟩]
def d85_3 : Option (List (List Nat)) := none
def l85_3 : List Nat := []
theorem cd85_3 : dOk d85_3 g85_3 l85_3 = true := by kernel_rfl
def c85 : AC := (.seq (.reg d85_0 g85_0) (.seq (.seq (.reg d85_1 g85_1) (.cond (.t 4) (.seq (.reg d85_2 g85_2) .ret) .skip)) (.seq (.reg d85_3 g85_3) .ret)))
def r85 : List RV := [.tmp 2]
theorem cc85 : (Try.f85.body.bind (cCode Try.prog Try.f85.ntmps)) = some c85 := by kernel_rfl
theorem cr85 : cRes Try.prog Try.f85.results.toList = some r85 := by kernel_rfl
theorem ca85 : callable Try.prog 85 = true := by kernel_rfl
def g87_0 : List G := [⟨(some 3), .box (.t 0), none⟩,
  ⟨(some 4), .box (.t 1), none⟩,
  ⟨(some 5), .box (.t 2), none⟩,
  ⟨(some 6), .mv (.c (.int .i64 (0))), none⟩]
def d87_0 : Option (List (List Nat)) := none
def l87_0 : List Nat := []
theorem cd87_0 : dOk d87_0 g87_0 l87_0 = true := by kernel_rfl
def g87_1 : List G := [⟨(some 7), .alloc (.nilf), none⟩,
  ⟨none, .st none (.t 7) (.c (.func 78 [])), none⟩]
def d87_1 : Option (List (List Nat)) := none
def l87_1 : List Nat := []
theorem cd87_1 : dOk d87_1 g87_1 l87_1 = true := by kernel_rfl
def g87_2 : List G := [⟨(some 8), .mk 112 [(.t 7), (.t 3), (.t 4), (.t 5)], none⟩,
  ⟨(some 9), .call 111 [(.t 8)], none⟩,
  ⟨(some 6), .mv (.t 9), none⟩]
def d87_2 : Option (List (List Nat)) := none
def l87_2 : List Nat := []
theorem cd87_2 : dOk d87_2 g87_2 l87_2 = true := by kernel_rfl
def c87 : AC := (.seq (.reg d87_0 g87_0) (.seq (.reg d87_1 g87_1) (.seq (.reg d87_2 g87_2) .ret)))
def r87 : List RV := [.tmp 6]
theorem cc87 : (Try.f87.body.bind (cCode Try.prog Try.f87.ntmps)) = some c87 := by kernel_rfl
theorem cr87 : cRes Try.prog Try.f87.results.toList = some r87 := by kernel_rfl
theorem ca87 : callable Try.prog 87 = true := by kernel_rfl
def g88_0 : List G := [⟨(some 3), .box (.t 0), none⟩,
  ⟨(some 4), .box (.t 1), none⟩,
  ⟨(some 5), .box (.t 2), none⟩,
  ⟨(some 6), .mv (.c (.int .i64 (0))), none⟩]
def d88_0 : Option (List (List Nat)) := none
def l88_0 : List Nat := []
theorem cd88_0 : dOk d88_0 g88_0 l88_0 = true := by kernel_rfl
def g88_1 : List G := [⟨(some 7), .alloc (.nilf), none⟩,
  ⟨none, .st none (.t 7) (.c (.func 78 [])), none⟩]
def d88_1 : Option (List (List Nat)) := none
def l88_1 : List Nat := []
theorem cd88_1 : dOk d88_1 g88_1 l88_1 = true := by kernel_rfl
def g88_2 : List G := [⟨(some 8), .mk 113 [(.t 7), (.t 3), (.t 4), (.t 5)], none⟩,
  ⟨(some 9), .call 111 [(.t 8)], none⟩,
  ⟨(some 6), .mv (.t 9), none⟩]
def d88_2 : Option (List (List Nat)) := none
def l88_2 : List Nat := []
theorem cd88_2 : dOk d88_2 g88_2 l88_2 = true := by kernel_rfl
def c88 : AC := (.seq (.reg d88_0 g88_0) (.seq (.reg d88_1 g88_1) (.seq (.reg d88_2 g88_2) .ret)))
def r88 : List RV := [.tmp 6]
theorem cc88 : (Try.f88.body.bind (cCode Try.prog Try.f88.ntmps)) = some c88 := by kernel_rfl
theorem cr88 : cRes Try.prog Try.f88.results.toList = some r88 := by kernel_rfl
theorem ca88 : callable Try.prog 88 = true := by kernel_rfl
def g89_0 : List G := [⟨(some 6), .mv (.c (.bool false)), none⟩]
def d89_0 : Option (List (List Nat)) := none
def l89_0 : List Nat := []
theorem cd89_0 : dOk d89_0 g89_0 l89_0 = true := by kernel_rfl
def g89_1 : List G := [⟨(some 7), .mv (.t 1), none⟩,
  ⟨(some 8), .mv (.t 0), none⟩,
  ⟨(some 9), .bin .leq (.t 7) (.t 8), none⟩,
  ⟨(some 10), .mv (.t 9), none⟩,
  ⟨(some 11), .mv (.t 0), some (10, true)⟩,
  ⟨(some 12), .mv (.t 2), some (10, true)⟩,
  ⟨(some 13), .bin .leq (.t 11) (.t 12), some (10, true)⟩,
  ⟨(some 14), .pick (.t 10) (.t 13) (.c (.bool false)), none⟩,
  ⟨(some 6), .mv (.t 14), none⟩]
def d89_1 : Option (List (List Nat)) := none
def l89_1 : List Nat := []
theorem cd89_1 : dOk d89_1 g89_1 l89_1 = true := by kernel_rfl
def c89 : AC := (.seq (.reg d89_0 g89_0) (.seq (.reg d89_1 g89_1) .ret))
def r89 : List RV := [.tmp 6]
theorem cc89 : (Try.f89.body.bind (cCode Try.prog Try.f89.ntmps)) = some c89 := by kernel_rfl
theorem cr89 : cRes Try.prog Try.f89.results.toList = some r89 := by kernel_rfl
theorem ca89 : callable Try.prog 89 = true := by kernel_rfl
def g90_0 : List G := [⟨(some 2), .box (.t 0), none⟩,
  ⟨(some 4), .mv (.c (.int .i64 (0))), none⟩]
def d90_0 : Option (List (List Nat)) := none
def l90_0 : List Nat := []
theorem cd90_0 : dOk d90_0 g90_0 l90_0 = true := by kernel_rfl
def g90_1 : List G := [⟨(some 6), .ld (some 7) (.t 2), none⟩,
  ⟨(some 7), .call 47 [(.t 6)], none⟩,
  ⟨(some 5), .mv (.t 7), none⟩]
def d90_1 : Option (List (List Nat)) := none
def l90_1 : List Nat := []
theorem cd90_1 : dOk d90_1 g90_1 l90_1 = true := by kernel_rfl
def g90_2 : List G := [⟨(some 8), .mv (.t 5), none⟩,
  ⟨(some 9), .bin .neq (.t 8) (.c (.int .i64 (0))), none⟩]
def d90_2 : Option (List (List Nat)) := none
def l90_2 : List Nat := []
theorem cd90_2 : dOk d90_2 g90_2 l90_2 = true := by kernel_rfl
def g90_3 : List G := [⟨(some 10), .mv (.t 5), none⟩,
  ⟨(some 4), .mv (.t 10), none⟩]
def d90_3 : Option (List (List Nat)) := none
def l90_3 : List Nat := []
theorem cd90_3 : dOk d90_3 g90_3 l90_3 = true := by kernel_rfl
def g90_4 : List G := [⟨(some 11), .mv (.t 1), none⟩,
  ⟨(some 12), .call 97 [(.t 11)], none⟩,
  ⟨(some 13), .un .not (.t 12), none⟩]
def d90_4 : Option (List (List Nat)) := none
def l90_4 : List Nat := []
theorem cd90_4 : dOk d90_4 g90_4 l90_4 = true := by kernel_rfl
def g90_5 : List G := [⟨(some 4), .mv (.c (.int .i64 (15))), none⟩]
def d90_5 : Option (List (List Nat)) := none
def l90_5 : List Nat := []
theorem cd90_5 : dOk d90_5 g90_5 l90_5 = true := by kernel_rfl
def g90_6 : List G := [⟨(some 4), .mv (.c (.int .i64 (0))), none⟩]
def d90_6 : Option (List (List Nat)) := none
def l90_6 : List Nat := []
theorem cd90_6 : dOk d90_6 g90_6 l90_6 = true := by kernel_rfl
def c90 : AC := (.seq (.reg d90_0 g90_0) (.seq (.seq (.reg d90_1 g90_1) (.seq (.reg d90_2 g90_2) (.cond (.t 9) (.seq (.reg d90_3 g90_3) .ret) .skip))) (.seq (.seq (.reg d90_4 g90_4) (.cond (.t 13) (.seq (.reg d90_5 g90_5) .ret) .skip)) (.seq (.reg d90_6 g90_6) .ret))))
def r90 : List RV := [.tmp 4]
theorem cc90 : (Try.f90.body.bind (cCode Try.prog Try.f90.ntmps)) = some c90 := by kernel_rfl
theorem cr90 : cRes Try.prog Try.f90.results.toList = some r90 := by kernel_rfl
theorem ca90 : callable Try.prog 90 = true := by kernel_rfl
def g91_0 : List G := [⟨(some 2), .box (.t 0), none⟩,
  ⟨(some 4), .mv (.c (.int .i64 (0))), none⟩,
  ⟨(some 5), .mv (.c (.bool false)), none⟩]
def d91_0 : Option (List (List Nat)) := none
def l91_0 : List Nat := []
theorem cd91_0 : dOk d91_0 g91_0 l91_0 = true := by kernel_rfl
def g91_1 : List G := [⟨(some 6), .fa 2 6 (.t 2), none⟩,
  ⟨(some 7), .ld none (.t 6), none⟩,
  ⟨(some 8), .mv (.t 1), none⟩,
  ⟨(some 9), .call 114 [(.t 7), (.t 8), (.c (.func 115 []))], none⟩,
  ⟨(some 10), .ext (.t 9) 0, none⟩,
  ⟨(some 11), .ext (.t 9) 1, none⟩,
  ⟨(some 4), .mv (.t 10), none⟩,
  ⟨(some 5), .mv (.t 11), none⟩]
def d91_1 : Option (List (List Nat)) := none
def l91_1 : List Nat := []
theorem cd91_1 : dOk d91_1 g91_1 l91_1 = true := by kernel_rfl
def c91 : AC := (.seq (.reg d91_0 g91_0) (.seq (.reg d91_1 g91_1) .ret))
def r91 : List RV := [.tmp 4, .tmp 5]
theorem cc91 : (Try.f91.body.bind (cCode Try.prog Try.f91.ntmps)) = some c91 := by kernel_rfl
theorem cr91 : cRes Try.prog Try.f91.results.toList = some r91 := by kernel_rfl
theorem ca91 : callable Try.prog 91 = true := by kernel_rfl
def g93_0 : List G := [⟨(some 1), .box (.t 0), none⟩,
  ⟨(some 2), .mv (.c (.bool false)), none⟩]
def d93_0 : Option (List (List Nat)) := none
def l93_0 : List Nat := []
theorem cd93_0 : dOk d93_0 g93_0 l93_0 = true := by kernel_rfl
def g93_1 : List G := [⟨(some 3), .va 6 1 (.t 1), none⟩,
  ⟨(some 4), .call 75 [(.t 3), (.c (.func 116 []))], none⟩,
  ⟨(some 5), .un .not (.t 4), none⟩,
  ⟨(some 2), .mv (.t 5), none⟩]
def d93_1 : Option (List (List Nat)) := none
def l93_1 : List Nat := []
theorem cd93_1 : dOk d93_1 g93_1 l93_1 = true := by kernel_rfl
def c93 : AC := (.seq (.reg d93_0 g93_0) (.seq (.reg d93_1 g93_1) .ret))
def r93 : List RV := [.tmp 2]
theorem cc93 : (Try.f93.body.bind (cCode Try.prog Try.f93.ntmps)) = some c93 := by kernel_rfl
theorem cr93 : cRes Try.prog Try.f93.results.toList = some r93 := by kernel_rfl
theorem ca93 : callable Try.prog 93 = true := by kernel_rfl
def g95_0 : List G := [⟨(some 1), .box (.t 0), none⟩,
  ⟨(some 2), .mv (.c (.bool false)), none⟩]
def d95_0 : Option (List (List Nat)) := none
def l95_0 : List Nat := []
theorem cd95_0 : dOk d95_0 g95_0 l95_0 = true := by kernel_rfl
def g95_1 : List G := [⟨(some 6), .ld (some 5) (.t 1), none⟩,
  ⟨(some 7), .mv (.c (.int .i64 (0))), none⟩]
def d95_1 : Option (List (List Nat)) := none
def l95_1 : List Nat := []
theorem cd95_1 : dOk d95_1 g95_1 l95_1 = true := by kernel_rfl
def g95_2 : List G := [⟨(some 8), .bin .lss (.t 7) (.c (.int .i64 (5))), none⟩]
def d95_2 : Option (List (List Nat)) := none
def l95_2 : List Nat := []
theorem cd95_2 : dOk d95_2 g95_2 l95_2 = true := by kernel_rfl
def g95_3 : List G := [⟨(some 9), .mv (.t 7), none⟩,
  ⟨(some 10), .ix 5 1 none (.t 6) (.t 7), none⟩,
  ⟨(some 3), .mv (.t 9), none⟩,
  ⟨(some 4), .mv (.t 10), none⟩]
def d95_3 : Option (List (List Nat)) := none
def l95_3 : List Nat := []
theorem cd95_3 : dOk d95_3 g95_3 l95_3 = true := by kernel_rfl
def g95_4 : List G := [⟨(some 11), .mv (.t 4), none⟩,
  ⟨(some 5), .mv (.t 11), none⟩]
def d95_4 : Option (List (List Nat)) := none
def l95_4 : List Nat := []
theorem cd95_4 : dOk d95_4 g95_4 l95_4 = true := by kernel_rfl
def g95_5 : List G := [⟨(some 12), .mv (.t 5), none⟩,
  ⟨(some 13), .call 117 [(.t 12)], none⟩,
  ⟨(some 14), .un .not (.t 13), none⟩,
  ⟨(some 15), .mv (.t 14), none⟩,
  ⟨(some 16), .mv (.t 5), some (15, false)⟩,
  ⟨(some 17), .mv (.t 3), some (15, false)⟩,
  ⟨(some 18), .call 110 [(.t 16), (.t 17)], some (15, false)⟩,
  ⟨(some 19), .un .not (.t 18), some (15, false)⟩,
  ⟨(some 20), .pick (.t 15) (.c (.bool true)) (.t 19), none⟩]
def d95_5 : Option (List (List Nat)) := none
def l95_5 : List Nat := []
theorem cd95_5 : dOk d95_5 g95_5 l95_5 = true := by kernel_rfl
def g95_6 : List G := [⟨(some 2), .mv (.c (.bool false)), none⟩]
def d95_6 : Option (List (List Nat)) := none
def l95_6 : List Nat := []
theorem cd95_6 : dOk d95_6 g95_6 l95_6 = true := by kernel_rfl
def g95_7 : List G := [⟨(some 21), .bin .add (.t 7) (.c (.int .i64 (1))), none⟩,
  ⟨(some 7), .mv (.t 21), none⟩]
def d95_7 : Option (List (List Nat)) := none
def l95_7 : List Nat := []
theorem cd95_7 : dOk d95_7 g95_7 l95_7 = true := by kernel_rfl
def g95_8 : List G := [⟨(some 2), .mv (.c (.bool true)), none⟩]
def d95_8 : Option (List (List Nat)) := none
def l95_8 : List Nat := []
theorem cd95_8 : dOk d95_8 g95_8 l95_8 = true := by kernel_rfl
def c95 : AC := (.seq (.reg d95_0 g95_0) (.seq (.seq (.reg d95_1 g95_1) (.block 0 (.loop (.seq (.reg d95_2 g95_2) (.seq (.cond (.t 8) .skip (.exit 0)) (.seq (.block 1 (.seq (.reg d95_3 g95_3) (.seq (.reg d95_4 g95_4) (.seq (.reg d95_5 g95_5) (.cond (.t 20) (.seq (.reg d95_6 g95_6) .ret) .skip))))) (.reg d95_7 g95_7))))))) (.seq (.reg d95_8 g95_8) .ret)))
def r95 : List RV := [.tmp 2]
theorem cc95 : (Try.f95.body.bind (cCode Try.prog Try.f95.ntmps)) = some c95 := by kernel_rfl
theorem cr95 : cRes Try.prog Try.f95.results.toList = some r95 := by kernel_rfl
theorem ca95 : callable Try.prog 95 = true := by kernel_rfl
def g96_0 : List G := [⟨(some 1), .box (.t 0), none⟩,
  ⟨(some 2), .mv (.c (.bool false)), none⟩]
def d96_0 : Option (List (List Nat)) := none
def l96_0 : List Nat := []
theorem cd96_0 : dOk d96_0 g96_0 l96_0 = true := by kernel_rfl
def g96_1 : List G := [⟨(some 3), .va 6 1 (.t 1), none⟩,
  ⟨(some 4), .call 75 [(.t 3), (.c (.func 118 []))], none⟩,
  ⟨(some 5), .un .not (.t 4), none⟩,
  ⟨(some 2), .mv (.t 5), none⟩]
def d96_1 : Option (List (List Nat)) := none
def l96_1 : List Nat := []
theorem cd96_1 : dOk d96_1 g96_1 l96_1 = true := by kernel_rfl
def c96 : AC := (.seq (.reg d96_0 g96_0) (.seq (.reg d96_1 g96_1) .ret))
def r96 : List RV := [.tmp 2]
theorem cc96 : (Try.f96.body.bind (cCode Try.prog Try.f96.ntmps)) = some c96 := by kernel_rfl
theorem cr96 : cRes Try.prog Try.f96.results.toList = some r96 := by kernel_rfl
theorem ca96 : callable Try.prog 96 = true := by kernel_rfl
def g97_0 : List G := [⟨(some 2), .mv (.c (.bool false)), none⟩]
def d97_0 : Option (List (List Nat)) := none
def l97_0 : List Nat := []
theorem cd97_0 : dOk d97_0 g97_0 l97_0 = true := by kernel_rfl
def g97_1 : List G := [⟨(some 3), .mv (.t 0), none⟩,
  ⟨(some 4), .call 89 [(.t 3), (.c (.int .i64 (1))), (.c (.int .i64 (99)))], none⟩,
  ⟨(some 2), .mv (.t 4), none⟩]
def d97_1 : Option (List (List Nat)) := none
def l97_1 : List Nat := []
theorem cd97_1 : dOk d97_1 g97_1 l97_1 = true := by kernel_rfl
def c97 : AC := (.seq (.reg d97_0 g97_0) (.seq (.reg d97_1 g97_1) .ret))
def r97 : List RV := [.tmp 2]
theorem cc97 : (Try.f97.body.bind (cCode Try.prog Try.f97.ntmps)) = some c97 := by kernel_rfl
theorem cr97 : cRes Try.prog Try.f97.results.toList = some r97 := by kernel_rfl
theorem ca97 : callable Try.prog 97 = true := by kernel_rfl
def g98_0 : List G := [⟨(some 3), .box (.t 0), none⟩,
  ⟨(some 5), .box (.t 2), none⟩,
  ⟨(some 6), .mv (.c (.bool false)), none⟩]
def d98_0 : Option (List (List Nat)) := none
def l98_0 : List Nat := []
theorem cd98_0 : dOk d98_0 g98_0 l98_0 = true := by kernel_rfl
def g98_1 : List G := [⟨(some 7), .mv (.t 1), none⟩,
  ⟨(some 8), .mk 120 [(.t 3), (.t 5)], none⟩,
  ⟨(some 9), .call 119 [(.t 7), (.t 8)], none⟩,
  ⟨(some 10), .un .not (.t 9), none⟩,
  ⟨(some 6), .mv (.t 10), none⟩]
def d98_1 : Option (List (List Nat)) := none
def l98_1 : List Nat := []
theorem cd98_1 : dOk d98_1 g98_1 l98_1 = true := by kernel_rfl
def c98 : AC := (.seq (.reg d98_0 g98_0) (.seq (.reg d98_1 g98_1) .ret))
def r98 : List RV := [.tmp 6]
theorem cc98 : (Try.f98.body.bind (cCode Try.prog Try.f98.ntmps)) = some c98 := by kernel_rfl
theorem cr98 : cRes Try.prog Try.f98.results.toList = some r98 := by kernel_rfl
theorem ca98 : callable Try.prog 98 = true := by kernel_rfl
def g99_0 : List G := [⟨(some 3), .box (.t 0), none⟩,
  ⟨(some 4), .box (.t 1), none⟩,
  ⟨(some 5), .box (.t 2), none⟩,
  ⟨(some 6), .mv (.c (.int .i64 (0))), none⟩]
def d99_0 : Option (List (List Nat)) := none
def l99_0 : List Nat := []
theorem cd99_0 : dOk d99_0 g99_0 l99_0 = true := by kernel_rfl
def g99_1 : List G := [⟨(some 7), .mv (.c (.int .i64 (0))), none⟩]
def d99_1 : Option (List (List Nat)) := none
def l99_1 : List Nat := []
theorem cd99_1 : dOk d99_1 g99_1 l99_1 = true := by kernel_rfl
def g99_2 : List G := [⟨(some 8), .mv (.c (.int .i64 (0))), none⟩]
def d99_2 : Option (List (List Nat)) := none
def l99_2 : List Nat := []
theorem cd99_2 : dOk d99_2 g99_2 l99_2 = true := by kernel_rfl
def g99_3 : List G := [⟨(some 9), .mv (.t 8), none⟩,
  ⟨(some 10), .bin .lss (.t 9) (.c (.int .i64 (6))), none⟩]
def d99_3 : Option (List (List Nat)) := none
def l99_3 : List Nat := []
theorem cd99_3 : dOk d99_3 g99_3 l99_3 = true := by kernel_rfl
def g99_4 : List G := [⟨(some 13), .mv (.t 8), none⟩,
  ⟨(some 14), .ia 6 1 (.t 4) (.t 13), none⟩,
  ⟨(some 15), .ld none (.t 14), none⟩,
  ⟨(some 16), .ia 5 1 (.t 3) (.t 15), none⟩,
  ⟨(some 17), .ld none (.t 16), none⟩,
  ⟨(some 18), .mv (.t 8), none⟩,
  ⟨(some 19), .ia 6 1 (.t 5) (.t 18), none⟩,
  ⟨(some 20), .ld none (.t 19), none⟩,
  ⟨(some 21), .ia 5 1 (.t 3) (.t 20), none⟩,
  ⟨(some 22), .ld none (.t 21), none⟩,
  ⟨(some 23), .bin .and (.t 17) (.t 22), none⟩,
  ⟨(some 24), .bin .eql (.t 23) (.c (.int .i64 (0))), none⟩]
def d99_4 : Option (List (List Nat)) := (some [[], [0], [1], [2], [3], [], [5], [6], [7], [8], [4, 9], [10]])
def l99_4 : List Nat := [0, 1, 3, 7, 15, 0, 32, 96, 224, 480, 1023, 2047]
theorem cd99_4 : dOk d99_4 g99_4 l99_4 = true := by kernel_rfl
def g99_5 : List G := [⟨(some 25), .mv (.t 7), none⟩,
  ⟨(some 26), .bin .add (.t 25) (.c (.int .i64 (1))), none⟩,
  ⟨(some 7), .mv (.t 26), none⟩]
def d99_5 : Option (List (List Nat)) := none
def l99_5 : List Nat := []
theorem cd99_5 : dOk d99_5 g99_5 l99_5 = true := by kernel_rfl
def g99_6 : List G := [⟨(some 11), .mv (.t 8), none⟩,
  ⟨(some 12), .bin .add (.t 11) (.c (.int .i64 (1))), none⟩,
  ⟨(some 8), .mv (.t 12), none⟩]
def d99_6 : Option (List (List Nat)) := none
def l99_6 : List Nat := []
theorem cd99_6 : dOk d99_6 g99_6 l99_6 = true := by kernel_rfl
def g99_7 : List G := [⟨(some 27), .mv (.t 7), none⟩,
  ⟨(some 6), .mv (.t 27), none⟩]
def d99_7 : Option (List (List Nat)) := none
def l99_7 : List Nat := []
theorem cd99_7 : dOk d99_7 g99_7 l99_7 = true := by kernel_rfl
def c99 : AC := (.seq (.reg d99_0 g99_0) (.seq (.reg d99_1 g99_1) (.seq (.seq (.reg d99_2 g99_2) (.block 0 (.loop (.seq (.seq (.reg d99_3 g99_3) (.cond (.t 10) .skip (.exit 0))) (.seq (.block 1 (.seq (.reg d99_4 g99_4) (.cond (.t 24) (.reg d99_5 g99_5) .skip))) (.reg d99_6 g99_6)))))) (.seq (.reg d99_7 g99_7) .ret))))
def r99 : List RV := [.tmp 6]
theorem cc99 : (Try.f99.body.bind (cCode Try.prog Try.f99.ntmps)) = some c99 := by kernel_rfl
theorem cr99 : cRes Try.prog Try.f99.results.toList = some r99 := by kernel_rfl
theorem ca99 : callable Try.prog 99 = true := by kernel_rfl
def g101_0 : List G := [⟨(some 0), .mv (.c (.nilf)), none⟩]
def d101_0 : Option (List (List Nat)) := none
def l101_0 : List Nat := []
theorem cd101_0 : dOk d101_0 g101_0 l101_0 = true := by kernel_rfl
def g101_1 : List G := [⟨(some 0), .mv (.c (.func 121 [])), none⟩]
def d101_1 : Option (List (List Nat)) := none
def l101_1 : List Nat := []
theorem cd101_1 : dOk d101_1 g101_1 l101_1 = true := by kernel_rfl
def c101 : AC := (.seq (.reg d101_0 g101_0) (.seq (.reg d101_1 g101_1) .ret))
def r101 : List RV := [.tmp 0]
theorem cc101 : (Try.f101.body.bind (cCode Try.prog Try.f101.ntmps)) = some c101 := by kernel_rfl
theorem cr101 : cRes Try.prog Try.f101.results.toList = some r101 := by kernel_rfl
theorem ca101 : callable Try.prog 101 = true := by kernel_rfl
def g102_0 : List G := [⟨(some 2), .box (.t 0), none⟩,
  ⟨(some 3), .box (.t 1), none⟩,
  ⟨(some 4), .alloc (.agg [.agg [.int .i64 (0), .int .i64 (0), .int .i64 (0), .int .i64 (0), .int .i64 (0)], .int .i64 (0), .nils 7]), none⟩]
def d102_0 : Option (List (List Nat)) := none
def l102_0 : List Nat := []
theorem cd102_0 : dOk d102_0 g102_0 l102_0 = true := by kernel_rfl
def g102_1 : List G := [⟨(some 8), .ld (some 7) (.t 2), none⟩,
  ⟨(some 9), .fa 0 0 (.t 3), none⟩,
  ⟨(some 10), .ld none (.t 9), none⟩,
  ⟨(some 11), .call 91 [(.t 8), (.t 10)], none⟩,
  ⟨(some 7), .mv (.t 11), none⟩,
  ⟨(some 12), .ext (.t 7) 0, none⟩,
  ⟨(some 13), .ext (.t 7) 1, none⟩,
  ⟨(some 5), .mv (.t 12), none⟩,
  ⟨(some 6), .mv (.t 13), none⟩]
def d102_1 : Option (List (List Nat)) := none
def l102_1 : List Nat := []
theorem cd102_1 : dOk d102_1 g102_1 l102_1 = true := by kernel_rfl
def g102_2 : List G := [⟨(some 14), .fa 2 6 (.t 2), none⟩,
  ⟨(some 15), .ld none (.t 14), none⟩,
  ⟨(some 16), .call 85 [(.t 15)], none⟩,
  ⟨(some 17), .mv (.t 5), none⟩,
  ⟨(some 18), .ld (some 7) (.t 3), none⟩,
  ⟨(some 19), .bs 7 [(.t 18)], none⟩,
  ⟨(some 20), .call 122 [(.t 16), (.t 17), (.t 19)], none⟩,
  ⟨(some 21), .fa 2 6 (.t 2), none⟩,
  ⟨none, .st none (.t 21) (.t 20), none⟩]
def d102_2 : Option (List (List Nat)) := (some [[], [0], [1], [], [], [4], [2, 3, 5, 2], [0, 1, 2, 3, 4, 5, 6], [7, 6, 6, 0, 1, 2, 3, 4, 5, 6]])
def l102_2 : List Nat := [0, 1, 3, 0, 0, 16, 63, 127, 255]
def g102_3 : List G := [⟨(some 22), .ld (some 7) (.t 2), none⟩,
  ⟨none, .st (some 7) (.t 4) (.t 22), none⟩]
def d102_3 : Option (List (List Nat)) := none
def l102_3 : List Nat := []
theorem cd102_3 : dOk d102_3 g102_3 l102_3 = true := by kernel_rfl
def c102 : AC := (.seq (.reg d102_0 g102_0) (.seq (.reg d102_1 g102_1) (.seq (.reg d102_2 g102_2) (.seq (.reg d102_3 g102_3) .ret))))
def r102 : List RV := [.cell 4 (some 7)]
theorem cc102 : (Try.f102.body.bind (cCode Try.prog Try.f102.ntmps)) = some c102 := by kernel_rfl
theorem cr102 : cRes Try.prog Try.f102.results.toList = some r102 := by kernel_rfl
theorem ca102 : callable Try.prog 102 = true := by kernel_rfl
def g104_0 : List G := [⟨(some 6), .mv (.c (.nils 7)), none⟩]
def d104_0 : Option (List (List Nat)) := none
def l104_0 : List Nat := []
theorem cd104_0 : dOk d104_0 g104_0 l104_0 = true := by kernel_rfl
def g104_1 : List G := [⟨(some 8), .mv (.t 0), none⟩,
  ⟨(some 9), .mv (.t 1), none⟩,
  ⟨(some 10), .mv (.t 2), none⟩,
  ⟨(some 11), .mv (.t 0), none⟩,
  ⟨(some 12), .len (.t 11), none⟩,
  ⟨(some 13), .sl 7 (.t 8) (some (.t 9)) (some (.t 10)) (some (.t 12)), none⟩]
def d104_1 : Option (List (List Nat)) := none
def l104_1 : List Nat := []
theorem cd104_1 : dOk d104_1 g104_1 l104_1 = true := by kernel_rfl
def g104_2 : List G := [⟨(some 14), .mv (.t 1), none⟩,
  ⟨(some 15), .mv (.t 2), none⟩,
  ⟨(some 16), .bin .eql (.t 14) (.t 15), none⟩]
def d104_2 : Option (List (List Nat)) := none
def l104_2 : List Nat := []
theorem cd104_2 : dOk d104_2 g104_2 l104_2 = true := by kernel_rfl
def g104_3 : List G := [⟨(some 17), .mv (.t 0), none⟩,
  ⟨(some 6), .mv (.t 17), none⟩]
def d104_3 : Option (List (List Nat)) := none
def g104_4 : List G := [⟨(some 18), .mv (.t 0), none⟩,
  ⟨(some 19), .len (.t 18), none⟩,
  ⟨(some 7), .mv (.t 19), none⟩]
def d104_4 : Option (List (List Nat)) := none
def l104_4 : List Nat := []
theorem cd104_4 : dOk d104_4 g104_4 l104_4 = true := by kernel_rfl
def g104_5 : List G := [⟨(some 20), .mv (.t 0), none⟩,
  ⟨(some 21), .mv (.t 1), none⟩,
  ⟨(some 22), .sl 7 (.t 20) none (some (.t 21)) none, none⟩,
  ⟨(some 23), .mv (.t 0), none⟩,
  ⟨(some 24), .mv (.t 2), none⟩,
  ⟨(some 25), .sl 7 (.t 23) (some (.t 24)) none none, none⟩,
  ⟨(some 26), .app 43 7 56 (.agg [.int .i64 (0), .agg [.int .i64 (0), .int .i64 (0), .int .i64 (0), .int .i64 (0), .int .i64 (0), .int .i64 (0)]]) (.t 22) (.t 25), none⟩,
  ⟨(some 0), .mv (.t 26), none⟩]
def d104_5 : Option (List (List Nat)) := (some [[], [], [0, 1], [], [], [3, 4], [2, 5], [6, 6, 0, 1, 2, 3, 4, 5, 6]])
def l104_5 : List Nat := [0, 0, 3, 0, 0, 24, 63, 127]
theorem cd104_5 : dOk d104_5 g104_5 l104_5 = true := by kernel_rfl
def g104_6 : List G := [⟨(some 27), .mv (.t 0), none⟩,
  ⟨(some 28), .mv (.t 0), none⟩,
  ⟨(some 29), .len (.t 28), none⟩,
  ⟨(some 30), .mv (.t 7), none⟩,
  ⟨(some 31), .sl 7 (.t 27) (some (.t 29)) (some (.t 30)) none, none⟩,
  ⟨none, .clr 7 (.agg [.int .i64 (0), .agg [.int .i64 (0), .int .i64 (0), .int .i64 (0), .int .i64 (0), .int .i64 (0), .int .i64 (0)]]) (.t 31), none⟩]
def d104_6 : Option (List (List Nat)) := none
def l104_6 : List Nat := []
theorem cd104_6 : dOk d104_6 g104_6 l104_6 = true := by kernel_rfl
def g104_7 : List G := [⟨(some 32), .mv (.t 0), none⟩,
  ⟨(some 6), .mv (.t 32), none⟩]
def d104_7 : Option (List (List Nat)) := none
def l104_7 : List Nat := []
theorem cd104_7 : dOk d104_7 g104_7 l104_7 = true := by kernel_rfl
def c104 : AC := (.seq (.reg d104_0 g104_0) (.seq (.reg d104_1 g104_1) (.seq (.seq (.reg d104_2 g104_2) (.cond (.t 16) (.seq (.reg d104_3 g104_3) .ret) .skip)) (.seq (.reg d104_4 g104_4) (.seq (.reg d104_5 g104_5) (.seq (.reg d104_6 g104_6) (.seq (.reg d104_7 g104_7) .ret)))))))
def r104 : List RV := [.tmp 6]
theorem cc104 : (Try.f104.body.bind (cCode Try.prog Try.f104.ntmps)) = some c104 := by kernel_rfl
theorem cr104 : cRes Try.prog Try.f104.results.toList = some r104 := by kernel_rfl
theorem ca104 : callable Try.prog 104 = true := by kernel_rfl
def g105_0 : List G := [⟨(some 3), .box (.t 0), none⟩,
  ⟨(some 4), .mv (.c (.bool false)), none⟩]
def d105_0 : Option (List (List Nat)) := none
def l105_0 : List Nat := []
theorem cd105_0 : dOk d105_0 g105_0 l105_0 = true := by kernel_rfl
def g105_1 : List G := [⟨(some 5), .fa 0 0 (.t 1), none⟩,
  ⟨(some 6), .ld (some 5) (.t 5), none⟩,
  ⟨(some 7), .fa 1 1 (.t 3), none⟩,
  ⟨(some 8), .ld (some 6) (.t 7), none⟩,
  ⟨(some 9), .ld (some 6) (.t 2), none⟩,
  ⟨(some 10), .call 88 [(.t 6), (.t 8), (.t 9)], none⟩,
  ⟨(some 11), .fa 1 5 (.t 1), none⟩,
  ⟨(some 12), .ld none (.t 11), none⟩,
  ⟨(some 13), .bin .gtr (.t 10) (.t 12), none⟩,
  ⟨(some 4), .mv (.t 13), none⟩]
def d105_1 : Option (List (List Nat)) := (some [[], [0], [], [2], [], [1, 3, 4], [], [6], [5, 7], [8, 5, 0, 1, 2, 3, 4, 5, 6, 7, 8]])
def l105_1 : List Nat := [0, 1, 0, 4, 0, 31, 0, 64, 255, 511]
theorem cd105_1 : dOk d105_1 g105_1 l105_1 = true := by kernel_rfl
def c105 : AC := (.seq (.reg d105_0 g105_0) (.seq (.reg d105_1 g105_1) .ret))
def r105 : List RV := [.tmp 4]
theorem cc105 : (Try.f105.body.bind (cCode Try.prog Try.f105.ntmps)) = some c105 := by kernel_rfl
theorem cr105 : cRes Try.prog Try.f105.results.toList = some r105 := by kernel_rfl
theorem ca105 : callable Try.prog 105 = true := by kernel_rfl
def g106_0 : List G := [⟨(some 4), .mv (.c (.int .i64 (0))), none⟩]
def d106_0 : Option (List (List Nat)) := none
def l106_0 : List Nat := []
theorem cd106_0 : dOk d106_0 g106_0 l106_0 = true := by kernel_rfl
def g106_1 : List G := [⟨(some 7), .mv (.t 0), none⟩,
  ⟨(some 8), .call 123 [(.t 7)], none⟩,
  ⟨(some 5), .mv (.t 8), none⟩]
def d106_1 : Option (List (List Nat)) := none
def l106_1 : List Nat := []
theorem cd106_1 : dOk d106_1 g106_1 l106_1 = true := by kernel_rfl
def g106_2 : List G := [⟨(some 9), .mv (.t 1), none⟩,
  ⟨(some 10), .call 123 [(.t 9)], none⟩,
  ⟨(some 6), .mv (.t 10), none⟩]
def d106_2 : Option (List (List Nat)) := none
def l106_2 : List Nat := []
theorem cd106_2 : dOk d106_2 g106_2 l106_2 = true := by kernel_rfl
def g106_3 : List G := [⟨(some 11), .mv (.t 5), none⟩]
def d106_3 : Option (List (List Nat)) := none
def l106_3 : List Nat := []
theorem cd106_3 : dOk d106_3 g106_3 l106_3 = true := by kernel_rfl
def g106_4 : List G := [⟨(some 12), .mv (.t 6), none⟩]
def d106_4 : Option (List (List Nat)) := none
def g106_5 : List G := [⟨(some 4), .mv (.c (.int .i64 (0))), none⟩]
def d106_5 : Option (List (List Nat)) := none
def g106_6 : List G := [⟨(some 4), .mv (.c (.int .i64 (-1))), none⟩]
def d106_6 : Option (List (List Nat)) := none
def g106_7 : List G := [⟨(some 13), .mv (.t 6), none⟩]
def d106_7 : Option (List (List Nat)) := none
def l106_7 : List Nat := []
theorem cd106_7 : dOk d106_7 g106_7 l106_7 = true := by kernel_rfl
def g106_8 : List G := [⟨(some 4), .mv (.c (.int .i64 (1))), none⟩]
def d106_8 : Option (List (List Nat)) := none
def g106_9 : List G := [⟨(some 14), .mv (.t 0), none⟩,
  ⟨(some 15), .mv (.t 1), none⟩,
  ⟨(some 16), .bin .lss (.t 14) (.t 15), none⟩]
def d106_9 : Option (List (List Nat)) := none
def l106_9 : List Nat := []
theorem cd106_9 : dOk d106_9 g106_9 l106_9 = true := by kernel_rfl
def g106_10 : List G := [⟨(some 4), .mv (.c (.int .i64 (-1))), none⟩]
def d106_10 : Option (List (List Nat)) := none
def l106_10 : List Nat := []
theorem cd106_10 : dOk d106_10 g106_10 l106_10 = true := by kernel_rfl
def g106_11 : List G := [⟨(some 17), .mv (.t 0), none⟩,
  ⟨(some 18), .mv (.t 1), none⟩,
  ⟨(some 19), .bin .gtr (.t 17) (.t 18), none⟩]
def d106_11 : Option (List (List Nat)) := none
def l106_11 : List Nat := []
theorem cd106_11 : dOk d106_11 g106_11 l106_11 = true := by kernel_rfl
def g106_12 : List G := [⟨(some 4), .mv (.c (.int .i64 (1))), none⟩]
def d106_12 : Option (List (List Nat)) := none
def l106_12 : List Nat := []
theorem cd106_12 : dOk d106_12 g106_12 l106_12 = true := by kernel_rfl
def g106_13 : List G := [⟨(some 4), .mv (.c (.int .i64 (0))), none⟩]
def d106_13 : Option (List (List Nat)) := none
def l106_13 : List Nat := []
theorem cd106_13 : dOk d106_13 g106_13 l106_13 = true := by kernel_rfl
def c106 : AC := (.seq (.reg d106_0 g106_0) (.seq (.reg d106_1 g106_1) (.seq (.reg d106_2 g106_2) (.seq (.seq (.reg d106_3 g106_3) (.cond (.t 11) (.seq (.seq (.reg d106_4 g106_4) (.cond (.t 12) (.seq (.reg d106_5 g106_5) .ret) .skip)) (.seq (.reg d106_6 g106_6) .ret)) .skip)) (.seq (.seq (.reg d106_7 g106_7) (.cond (.t 13) (.seq (.reg d106_8 g106_8) .ret) .skip)) (.seq (.seq (.reg d106_9 g106_9) (.cond (.t 16) (.seq (.reg d106_10 g106_10) .ret) .skip)) (.seq (.seq (.reg d106_11 g106_11) (.cond (.t 19) (.seq (.reg d106_12 g106_12) .ret) .skip)) (.seq (.reg d106_13 g106_13) .ret))))))))
def r106 : List RV := [.tmp 4]
theorem cc106 : (Try.f106.body.bind (cCode Try.prog Try.f106.ntmps)) = some c106 := by kernel_rfl
theorem cr106 : cRes Try.prog Try.f106.results.toList = some r106 := by kernel_rfl
theorem ca106 : callable Try.prog 106 = true := by kernel_rfl
def g107_0 : List G := [⟨(some 5), .mv (.c (.bool false)), none⟩]
def d107_0 : Option (List (List Nat)) := none
def l107_0 : List Nat := []
theorem cd107_0 : dOk d107_0 g107_0 l107_0 = true := by kernel_rfl
def g107_1 : List G := [⟨(some 6), .ld (some 5) (.t 1), none⟩,
  ⟨(some 7), .fa 1 1 (.t 2), none⟩,
  ⟨(some 8), .ld (some 6) (.t 7), none⟩,
  ⟨(some 9), .mv (.t 0), none⟩,
  ⟨(some 10), .call 77 [(.t 6), (.t 8), (.t 9)], none⟩,
  ⟨(some 11), .ld (some 5) (.t 1), none⟩,
  ⟨(some 12), .fa 1 1 (.t 3), none⟩,
  ⟨(some 13), .ld (some 6) (.t 12), none⟩,
  ⟨(some 14), .mv (.t 0), none⟩,
  ⟨(some 15), .call 77 [(.t 11), (.t 13), (.t 14)], none⟩,
  ⟨(some 16), .call 78 [(.t 10), (.t 15)], none⟩,
  ⟨(some 17), .un .not (.t 16), none⟩,
  ⟨(some 5), .mv (.t 17), none⟩]
def d107_1 : Option (List (List Nat)) := (some [[], [], [1], [], [0, 2, 3], [], [], [6], [], [5, 7, 8, 4], [4, 9, 9], [10], [11, 10, 0, 1, 2, 3, 4, 5, 6, 7, 8, 9, 10, 11]])
def l107_1 : List Nat := [0, 0, 2, 0, 15, 0, 0, 64, 0, 511, 1023, 2047, 4095]
theorem cd107_1 : dOk d107_1 g107_1 l107_1 = true := by kernel_rfl
def c107 : AC := (.seq (.reg d107_0 g107_0) (.seq (.reg d107_1 g107_1) .ret))
def r107 : List RV := [.tmp 5]
theorem cc107 : (Try.f107.body.bind (cCode Try.prog Try.f107.ntmps)) = some c107 := by kernel_rfl
theorem cr107 : cRes Try.prog Try.f107.results.toList = some r107 := by kernel_rfl
theorem ca107 : callable Try.prog 107 = true := by kernel_rfl
def g108_0 : List G := [⟨(some 4), .mv (.c (.int .i64 (0))), none⟩]
def d108_0 : Option (List (List Nat)) := none
def l108_0 : List Nat := []
theorem cd108_0 : dOk d108_0 g108_0 l108_0 = true := by kernel_rfl
def g108_1 : List G := [⟨(some 6), .mv (.t 0), none⟩,
  ⟨(some 7), .len (.t 6), none⟩,
  ⟨(some 8), .mv (.c (.int .i64 (0))), none⟩]
def d108_1 : Option (List (List Nat)) := none
def l108_1 : List Nat := []
theorem cd108_1 : dOk d108_1 g108_1 l108_1 = true := by kernel_rfl
def g108_2 : List G := [⟨(some 9), .bin .lss (.t 8) (.t 7), none⟩]
def d108_2 : Option (List (List Nat)) := none
def l108_2 : List Nat := []
theorem cd108_2 : dOk d108_2 g108_2 l108_2 = true := by kernel_rfl
def g108_3 : List G := [⟨(some 10), .mv (.t 8), none⟩,
  ⟨(some 5), .mv (.t 10), none⟩]
def d108_3 : Option (List (List Nat)) := none
def l108_3 : List Nat := []
theorem cd108_3 : dOk d108_3 g108_3 l108_3 = true := by kernel_rfl
def g108_4 : List G := [⟨(some 11), .mv (.t 1), none⟩,
  ⟨(some 12), .mv (.t 0), none⟩,
  ⟨(some 13), .mv (.t 5), none⟩,
  ⟨(some 14), .is 7 (.t 12) (.t 13), none⟩,
  ⟨(some 15), .ld (some 7) (.t 14), none⟩,
  ⟨(some 16), .callv (.t 11) [(.t 15)], none⟩]
def d108_4 : Option (List (List Nat)) := none
def l108_4 : List Nat := []
theorem cd108_4 : dOk d108_4 g108_4 l108_4 = true := by kernel_rfl
def g108_5 : List G := [⟨(some 17), .mv (.t 5), none⟩,
  ⟨(some 4), .mv (.t 17), none⟩]
def d108_5 : Option (List (List Nat)) := none
def l108_5 : List Nat := []
theorem cd108_5 : dOk d108_5 g108_5 l108_5 = true := by kernel_rfl
def g108_6 : List G := [⟨(some 18), .bin .add (.t 8) (.c (.int .i64 (1))), none⟩,
  ⟨(some 8), .mv (.t 18), none⟩]
def d108_6 : Option (List (List Nat)) := none
def l108_6 : List Nat := []
theorem cd108_6 : dOk d108_6 g108_6 l108_6 = true := by kernel_rfl
def g108_7 : List G := [⟨(some 4), .mv (.c (.int .i64 (-1))), none⟩]
def d108_7 : Option (List (List Nat)) := none
def l108_7 : List Nat := []
theorem cd108_7 : dOk d108_7 g108_7 l108_7 = true := by kernel_rfl
def c108 : AC := (.seq (.reg d108_0 g108_0) (.seq (.seq (.reg d108_1 g108_1) (.block 0 (.loop (.seq (.reg d108_2 g108_2) (.seq (.cond (.t 9) .skip (.exit 0)) (.seq (.block 1 (.seq (.reg d108_3 g108_3) (.seq (.reg d108_4 g108_4) (.cond (.t 16) (.seq (.reg d108_5 g108_5) .ret) .skip)))) (.reg d108_6 g108_6))))))) (.seq (.reg d108_7 g108_7) .ret)))
def r108 : List RV := [.tmp 4]
theorem cc108 : (Try.f108.body.bind (cCode Try.prog Try.f108.ntmps)) = some c108 := by kernel_rfl
theorem cr108 : cRes Try.prog Try.f108.results.toList = some r108 := by kernel_rfl
theorem ca108 : callable Try.prog 108 = true := by kernel_rfl
def g109_0 : List G := [⟨(some 4), .mv (.c (.int .i64 (0))), none⟩]
def d109_0 : Option (List (List Nat)) := none
def l109_0 : List Nat := []
theorem cd109_0 : dOk d109_0 g109_0 l109_0 = true := by kernel_rfl
def g109_1 : List G := [⟨(some 6), .mv (.t 0), none⟩,
  ⟨(some 7), .len (.t 6), none⟩,
  ⟨(some 8), .mv (.c (.int .i64 (0))), none⟩]
def d109_1 : Option (List (List Nat)) := none
def l109_1 : List Nat := []
theorem cd109_1 : dOk d109_1 g109_1 l109_1 = true := by kernel_rfl
def g109_2 : List G := [⟨(some 9), .bin .lss (.t 8) (.t 7), none⟩]
def d109_2 : Option (List (List Nat)) := none
def l109_2 : List Nat := []
theorem cd109_2 : dOk d109_2 g109_2 l109_2 = true := by kernel_rfl
def g109_3 : List G := [⟨(some 10), .mv (.t 8), none⟩,
  ⟨(some 5), .mv (.t 10), none⟩]
def d109_3 : Option (List (List Nat)) := none
def l109_3 : List Nat := []
theorem cd109_3 : dOk d109_3 g109_3 l109_3 = true := by kernel_rfl
def g109_4 : List G := [⟨(some 11), .mv (.t 1), none⟩,
  ⟨(some 12), .mv (.t 0), none⟩,
  ⟨(some 13), .mv (.t 5), none⟩,
  ⟨(some 14), .is 1 (.t 12) (.t 13), none⟩,
  ⟨(some 15), .ld none (.t 14), none⟩,
  ⟨(some 16), .callv (.t 11) [(.t 15)], none⟩]
def d109_4 : Option (List (List Nat)) := none
def l109_4 : List Nat := []
theorem cd109_4 : dOk d109_4 g109_4 l109_4 = true := by kernel_rfl
def g109_5 : List G := [⟨(some 17), .mv (.t 5), none⟩,
  ⟨(some 4), .mv (.t 17), none⟩]
def d109_5 : Option (List (List Nat)) := none
def l109_5 : List Nat := []
theorem cd109_5 : dOk d109_5 g109_5 l109_5 = true := by kernel_rfl
def g109_6 : List G := [⟨(some 18), .bin .add (.t 8) (.c (.int .i64 (1))), none⟩,
  ⟨(some 8), .mv (.t 18), none⟩]
def d109_6 : Option (List (List Nat)) := none
def l109_6 : List Nat := []
theorem cd109_6 : dOk d109_6 g109_6 l109_6 = true := by kernel_rfl
def g109_7 : List G := [⟨(some 4), .mv (.c (.int .i64 (-1))), none⟩]
def d109_7 : Option (List (List Nat)) := none
def l109_7 : List Nat := []
theorem cd109_7 : dOk d109_7 g109_7 l109_7 = true := by kernel_rfl
def c109 : AC := (.seq (.reg d109_0 g109_0) (.seq (.seq (.reg d109_1 g109_1) (.block 0 (.loop (.seq (.reg d109_2 g109_2) (.seq (.cond (.t 9) .skip (.exit 0)) (.seq (.block 1 (.seq (.reg d109_3 g109_3) (.seq (.reg d109_4 g109_4) (.cond (.t 16) (.seq (.reg d109_5 g109_5) .ret) .skip)))) (.reg d109_6 g109_6))))))) (.seq (.reg d109_7 g109_7) .ret)))
def r109 : List RV := [.tmp 4]
theorem cc109 : (Try.f109.body.bind (cCode Try.prog Try.f109.ntmps)) = some c109 := by kernel_rfl
theorem cr109 : cRes Try.prog Try.f109.results.toList = some r109 := by kernel_rfl
theorem ca109 : callable Try.prog 109 = true := by kernel_rfl
def g110_0 : List G := [⟨(some 4), .mv (.c (.bool false)), none⟩]
def d110_0 : Option (List (List Nat)) := none
def l110_0 : List Nat := []
theorem cd110_0 : dOk d110_0 g110_0 l110_0 = true := by kernel_rfl
def g110_1 : List G := [⟨(some 5), .mv (.t 0), none⟩,
  ⟨(some 6), .mv (.t 1), none⟩,
  ⟨(some 7), .bin .shr (.t 5) (.t 6), none⟩,
  ⟨(some 8), .bin .and (.t 7) (.c (.int .i64 (1))), none⟩,
  ⟨(some 9), .bin .eql (.t 8) (.c (.int .i64 (1))), none⟩,
  ⟨(some 4), .mv (.t 9), none⟩]
def d110_1 : Option (List (List Nat)) := none
def l110_1 : List Nat := []
theorem cd110_1 : dOk d110_1 g110_1 l110_1 = true := by kernel_rfl
def c110 : AC := (.seq (.reg d110_0 g110_0) (.seq (.reg d110_1 g110_1) .ret))
def r110 : List RV := [.tmp 4]
theorem cc110 : (Try.f110.body.bind (cCode Try.prog Try.f110.ntmps)) = some c110 := by kernel_rfl
theorem cr110 : cRes Try.prog Try.f110.results.toList = some r110 := by kernel_rfl
theorem ca110 : callable Try.prog 110 = true := by kernel_rfl
def g111_0 : List G := [⟨(some 2), .mv (.c (.int .i64 (0))), none⟩]
def d111_0 : Option (List (List Nat)) := none
def l111_0 : List Nat := []
theorem cd111_0 : dOk d111_0 g111_0 l111_0 = true := by kernel_rfl
def g111_1 : List G := [⟨(some 3), .mv (.c (.int .i64 (0))), none⟩]
def d111_1 : Option (List (List Nat)) := none
def l111_1 : List Nat := []
theorem cd111_1 : dOk d111_1 g111_1 l111_1 = true := by kernel_rfl
def g111_2 : List G := [⟨(some 5), .mv (.c (.int .i64 (0))), none⟩]
def d111_2 : Option (List (List Nat)) := none
def l111_2 : List Nat := []
theorem cd111_2 : dOk d111_2 g111_2 l111_2 = true := by kernel_rfl
def g111_3 : List G := [⟨(some 6), .bin .lss (.t 5) (.c (.int .i64 (6))), none⟩]
def d111_3 : Option (List (List Nat)) := none
def l111_3 : List Nat := []
theorem cd111_3 : dOk d111_3 g111_3 l111_3 = true := by kernel_rfl
def g111_4 : List G := [⟨(some 7), .mv (.t 5), none⟩,
  ⟨(some 4), .mv (.t 7), none⟩]
def d111_4 : Option (List (List Nat)) := none
def l111_4 : List Nat := []
theorem cd111_4 : dOk d111_4 g111_4 l111_4 = true := by kernel_rfl
def g111_5 : List G := [⟨(some 8), .mv (.t 0), none⟩,
  ⟨(some 9), .mv (.t 4), none⟩,
  ⟨(some 10), .callv (.t 8) [(.t 9)], none⟩,
  ⟨(some 11), .un .not (.t 10), none⟩]
def d111_5 : Option (List (List Nat)) := none
def l111_5 : List Nat := []
theorem cd111_5 : dOk d111_5 g111_5 l111_5 = true := by kernel_rfl
def g111_6 : List G := [⟨(some 12), .mv (.t 3), none⟩,
  ⟨(some 13), .bin .add (.t 12) (.c (.int .i64 (1))), none⟩,
  ⟨(some 3), .mv (.t 13), none⟩]
def d111_6 : Option (List (List Nat)) := none
def l111_6 : List Nat := []
theorem cd111_6 : dOk d111_6 g111_6 l111_6 = true := by kernel_rfl
def g111_7 : List G := [⟨(some 14), .bin .add (.t 5) (.c (.int .i64 (1))), none⟩,
  ⟨(some 5), .mv (.t 14), none⟩]
def d111_7 : Option (List (List Nat)) := none
def l111_7 : List Nat := []
theorem cd111_7 : dOk d111_7 g111_7 l111_7 = true := by kernel_rfl
def g111_8 : List G := [⟨(some 15), .mv (.t 3), none⟩,
  ⟨(some 2), .mv (.t 15), none⟩]
def d111_8 : Option (List (List Nat)) := none
def l111_8 : List Nat := []
theorem cd111_8 : dOk d111_8 g111_8 l111_8 = true := by kernel_rfl
def c111 : AC := (.seq (.reg d111_0 g111_0) (.seq (.reg d111_1 g111_1) (.seq (.seq (.reg d111_2 g111_2) (.block 0 (.loop (.seq (.reg d111_3 g111_3) (.seq (.cond (.t 6) .skip (.exit 0)) (.seq (.block 1 (.seq (.reg d111_4 g111_4) (.seq (.reg d111_5 g111_5) (.cond (.t 11) (.reg d111_6 g111_6) .skip)))) (.reg d111_7 g111_7))))))) (.seq (.reg d111_8 g111_8) .ret))))
def r111 : List RV := [.tmp 2]
theorem cc111 : (Try.f111.body.bind (cCode Try.prog Try.f111.ntmps)) = some c111 := by kernel_rfl
theorem cr111 : cRes Try.prog Try.f111.results.toList = some r111 := by kernel_rfl
theorem ca111 : callable Try.prog 111 = true := by kernel_rfl
def g112_0 : List G := [⟨(some 6), .mv (.c (.bool false)), none⟩]
def d112_0 : Option (List (List Nat)) := none
def l112_0 : List Nat := []
theorem cd112_0 : dOk d112_0 g112_0 l112_0 = true := by kernel_rfl
def g112_1 : List G := [⟨(some 7), .ld none (.t 1), none⟩,
  ⟨(some 8), .ld (some 5) (.t 2), none⟩,
  ⟨(some 9), .ld (some 6) (.t 3), none⟩,
  ⟨(some 10), .mv (.t 0), none⟩,
  ⟨(some 11), .call 77 [(.t 8), (.t 9), (.t 10)], none⟩,
  ⟨(some 12), .ld (some 5) (.t 2), none⟩,
  ⟨(some 13), .ld (some 6) (.t 4), none⟩,
  ⟨(some 14), .mv (.t 0), none⟩,
  ⟨(some 15), .call 77 [(.t 12), (.t 13), (.t 14)], none⟩,
  ⟨(some 16), .callv (.t 7) [(.t 11), (.t 15)], none⟩,
  ⟨(some 6), .mv (.t 16), none⟩]
def d112_1 : Option (List (List Nat)) := (some [[], [], [], [], [1, 2, 3], [], [], [], [5, 6, 7, 4], [0, 4, 8, 8], [9, 9, 0, 1, 2, 3, 4, 5, 6, 7, 8, 9]])
def l112_1 : List Nat := [0, 0, 0, 0, 14, 0, 0, 0, 254, 511, 1023]
theorem cd112_1 : dOk d112_1 g112_1 l112_1 = true := by kernel_rfl
def c112 : AC := (.seq (.reg d112_0 g112_0) (.seq (.reg d112_1 g112_1) .ret))
def r112 : List RV := [.tmp 6]
theorem cc112 : (Try.f112.body.bind (cCode Try.prog Try.f112.ntmps)) = some c112 := by kernel_rfl
theorem cr112 : cRes Try.prog Try.f112.results.toList = some r112 := by kernel_rfl
theorem ca112 : callable Try.prog 112 = true := by kernel_rfl
def g113_0 : List G := [⟨(some 6), .mv (.c (.bool false)), none⟩]
def d113_0 : Option (List (List Nat)) := none
def l113_0 : List Nat := []
theorem cd113_0 : dOk d113_0 g113_0 l113_0 = true := by kernel_rfl
def g113_1 : List G := [⟨(some 7), .ld none (.t 1), none⟩,
  ⟨(some 8), .ld (some 5) (.t 2), none⟩,
  ⟨(some 9), .ld (some 6) (.t 3), none⟩,
  ⟨(some 10), .mv (.t 0), none⟩,
  ⟨(some 11), .call 77 [(.t 8), (.t 9), (.t 10)], none⟩,
  ⟨(some 12), .mv (.t 0), none⟩,
  ⟨(some 13), .ia 6 1 (.t 4) (.t 12), none⟩,
  ⟨(some 14), .ld none (.t 13), none⟩,
  ⟨(some 15), .callv (.t 7) [(.t 11), (.t 14)], none⟩,
  ⟨(some 6), .mv (.t 15), none⟩]
def d113_1 : Option (List (List Nat)) := (some [[], [], [], [], [1, 2, 3], [], [5], [6], [0, 4, 7, 4], [8, 8, 0, 1, 2, 3, 4, 5, 6, 7, 8]])
def l113_1 : List Nat := [0, 0, 0, 0, 14, 0, 32, 96, 255, 511]
theorem cd113_1 : dOk d113_1 g113_1 l113_1 = true := by kernel_rfl
def c113 : AC := (.seq (.reg d113_0 g113_0) (.seq (.reg d113_1 g113_1) .ret))
def r113 : List RV := [.tmp 6]
theorem cc113 : (Try.f113.body.bind (cCode Try.prog Try.f113.ntmps)) = some c113 := by kernel_rfl
theorem cr113 : cRes Try.prog Try.f113.results.toList = some r113 := by kernel_rfl
theorem ca113 : callable Try.prog 113 = true := by kernel_rfl
def g114_0 : List G := [⟨(some 6), .mv (.c (.int .i64 (0))), none⟩,
  ⟨(some 7), .mv (.c (.bool false)), none⟩]
def d114_0 : Option (List (List Nat)) := none
def l114_0 : List Nat := []
theorem cd114_0 : dOk d114_0 g114_0 l114_0 = true := by kernel_rfl
def g114_1 : List G := [⟨(some 12), .mv (.t 0), none⟩,
  ⟨(some 13), .len (.t 12), none⟩,
  ⟨(some 8), .mv (.t 13), none⟩]
def d114_1 : Option (List (List Nat)) := none
def l114_1 : List Nat := []
theorem cd114_1 : dOk d114_1 g114_1 l114_1 = true := by kernel_rfl
def g114_2 : List G := [⟨(some 14), .mv (.t 8), none⟩,
  ⟨(some 9), .mv (.c (.int .i64 (0))), none⟩,
  ⟨(some 10), .mv (.t 14), none⟩]
def d114_2 : Option (List (List Nat)) := none
def l114_2 : List Nat := []
theorem cd114_2 : dOk d114_2 g114_2 l114_2 = true := by kernel_rfl
def g114_3 : List G := [⟨(some 15), .mv (.t 9), none⟩,
  ⟨(some 16), .mv (.t 10), none⟩,
  ⟨(some 17), .bin .lss (.t 15) (.t 16), none⟩]
def d114_3 : Option (List (List Nat)) := none
def l114_3 : List Nat := []
theorem cd114_3 : dOk d114_3 g114_3 l114_3 = true := by kernel_rfl
def g114_4 : List G := [⟨(some 18), .mv (.t 9), none⟩,
  ⟨(some 19), .mv (.t 10), none⟩,
  ⟨(some 20), .bin .add (.t 18) (.t 19), none⟩,
  ⟨(some 21), .conv .u64 (.t 20), none⟩,
  ⟨(some 22), .bin .shr (.t 21) (.c (.int .u64 (1))), none⟩,
  ⟨(some 23), .conv .i64 (.t 22), none⟩,
  ⟨(some 11), .mv (.t 23), none⟩]
def d114_4 : Option (List (List Nat)) := none
def l114_4 : List Nat := []
theorem cd114_4 : dOk d114_4 g114_4 l114_4 = true := by kernel_rfl
def g114_5 : List G := [⟨(some 24), .mv (.t 2), none⟩,
  ⟨(some 25), .mv (.t 0), none⟩,
  ⟨(some 26), .mv (.t 11), none⟩,
  ⟨(some 27), .is 7 (.t 25) (.t 26), none⟩,
  ⟨(some 28), .ld (some 7) (.t 27), none⟩,
  ⟨(some 29), .mv (.t 1), none⟩,
  ⟨(some 30), .callv (.t 24) [(.t 28), (.t 29)], none⟩,
  ⟨(some 31), .bin .lss (.t 30) (.c (.int .i64 (0))), none⟩]
def d114_5 : Option (List (List Nat)) := none
def l114_5 : List Nat := []
theorem cd114_5 : dOk d114_5 g114_5 l114_5 = true := by kernel_rfl
def g114_6 : List G := [⟨(some 32), .mv (.t 11), none⟩,
  ⟨(some 33), .bin .add (.t 32) (.c (.int .i64 (1))), none⟩,
  ⟨(some 9), .mv (.t 33), none⟩]
def d114_6 : Option (List (List Nat)) := none
def l114_6 : List Nat := []
theorem cd114_6 : dOk d114_6 g114_6 l114_6 = true := by kernel_rfl
def g114_7 : List G := [⟨(some 34), .mv (.t 11), none⟩,
  ⟨(some 10), .mv (.t 34), none⟩]
def d114_7 : Option (List (List Nat)) := none
def l114_7 : List Nat := []
theorem cd114_7 : dOk d114_7 g114_7 l114_7 = true := by kernel_rfl
def g114_8 : List G := [⟨(some 35), .mv (.t 9), none⟩,
  ⟨(some 36), .mv (.t 9), none⟩,
  ⟨(some 37), .mv (.t 8), none⟩,
  ⟨(some 38), .bin .lss (.t 36) (.t 37), none⟩,
  ⟨(some 39), .mv (.t 38), none⟩,
  ⟨(some 40), .mv (.t 2), some (39, true)⟩,
  ⟨(some 41), .mv (.t 0), some (39, true)⟩,
  ⟨(some 42), .mv (.t 9), some (39, true)⟩,
  ⟨(some 43), .is 7 (.t 41) (.t 42), some (39, true)⟩,
  ⟨(some 44), .ld (some 7) (.t 43), some (39, true)⟩,
  ⟨(some 45), .mv (.t 1), some (39, true)⟩,
  ⟨(some 46), .callv (.t 40) [(.t 44), (.t 45)], some (39, true)⟩,
  ⟨(some 47), .bin .eql (.t 46) (.c (.int .i64 (0))), some (39, true)⟩,
  ⟨(some 48), .pick (.t 39) (.t 47) (.c (.bool false)), none⟩,
  ⟨(some 6), .mv (.t 35), none⟩,
  ⟨(some 7), .mv (.t 48), none⟩]
def d114_8 : Option (List (List Nat)) := none
def l114_8 : List Nat := []
theorem cd114_8 : dOk d114_8 g114_8 l114_8 = true := by kernel_rfl
def c114 : AC := (.seq (.reg d114_0 g114_0) (.seq (.reg d114_1 g114_1) (.seq (.reg d114_2 g114_2) (.seq (.block 0 (.loop (.seq (.seq (.reg d114_3 g114_3) (.cond (.t 17) .skip (.exit 0))) (.block 1 (.seq (.reg d114_4 g114_4) (.seq (.reg d114_5 g114_5) (.cond (.t 31) (.reg d114_6 g114_6) (.reg d114_7 g114_7)))))))) (.seq (.reg d114_8 g114_8) .ret)))))
def r114 : List RV := [.tmp 6, .tmp 7]
theorem cc114 : (Try.f114.body.bind (cCode Try.prog Try.f114.ntmps)) = some c114 := by kernel_rfl
theorem cr114 : cRes Try.prog Try.f114.results.toList = some r114 := by kernel_rfl
theorem ca114 : callable Try.prog 114 = true := by kernel_rfl
def g115_0 : List G := [⟨(some 2), .box (.t 0), none⟩,
  ⟨(some 4), .mv (.c (.int .i64 (0))), none⟩]
def d115_0 : Option (List (List Nat)) := none
def l115_0 : List Nat := []
theorem cd115_0 : dOk d115_0 g115_0 l115_0 = true := by kernel_rfl
def g115_1 : List G := [⟨(some 5), .fa 0 0 (.t 2), none⟩,
  ⟨(some 6), .ld none (.t 5), none⟩,
  ⟨(some 7), .mv (.t 1), none⟩,
  ⟨(some 8), .bin .sub (.t 6) (.t 7), none⟩,
  ⟨(some 4), .mv (.t 8), none⟩]
def d115_1 : Option (List (List Nat)) := none
def l115_1 : List Nat := []
theorem cd115_1 : dOk d115_1 g115_1 l115_1 = true := by kernel_rfl
def c115 : AC := (.seq (.reg d115_0 g115_0) (.seq (.reg d115_1 g115_1) .ret))
def r115 : List RV := [.tmp 4]
theorem cc115 : (Try.f115.body.bind (cCode Try.prog Try.f115.ntmps)) = some c115 := by kernel_rfl
theorem cr115 : cRes Try.prog Try.f115.results.toList = some r115 := by kernel_rfl
theorem ca115 : callable Try.prog 115 = true := by kernel_rfl
def g116_0 : List G := [⟨(some 2), .mv (.c (.bool false)), none⟩]
def d116_0 : Option (List (List Nat)) := none
def l116_0 : List Nat := []
theorem cd116_0 : dOk d116_0 g116_0 l116_0 = true := by kernel_rfl
def g116_1 : List G := [⟨(some 3), .mv (.t 0), none⟩,
  ⟨(some 4), .call 89 [(.t 3), (.c (.int .i64 (0))), (.c (.int .i64 (4)))], none⟩,
  ⟨(some 5), .un .not (.t 4), none⟩,
  ⟨(some 2), .mv (.t 5), none⟩]
def d116_1 : Option (List (List Nat)) := none
def l116_1 : List Nat := []
theorem cd116_1 : dOk d116_1 g116_1 l116_1 = true := by kernel_rfl
def c116 : AC := (.seq (.reg d116_0 g116_0) (.seq (.reg d116_1 g116_1) .ret))
def r116 : List RV := [.tmp 2]
theorem cc116 : (Try.f116.body.bind (cCode Try.prog Try.f116.ntmps)) = some c116 := by kernel_rfl
theorem cr116 : cRes Try.prog Try.f116.results.toList = some r116 := by kernel_rfl
theorem ca116 : callable Try.prog 116 = true := by kernel_rfl
def g117_0 : List G := [⟨(some 2), .mv (.c (.bool false)), none⟩]
def d117_0 : Option (List (List Nat)) := none
def l117_0 : List Nat := []
theorem cd117_0 : dOk d117_0 g117_0 l117_0 = true := by kernel_rfl
def g117_1 : List G := [⟨(some 3), .mv (.t 0), none⟩,
  ⟨(some 4), .call 89 [(.t 3), (.c (.int .i64 (0))), (.c (.int .i64 (31)))], none⟩,
  ⟨(some 2), .mv (.t 4), none⟩]
def d117_1 : Option (List (List Nat)) := none
def l117_1 : List Nat := []
theorem cd117_1 : dOk d117_1 g117_1 l117_1 = true := by kernel_rfl
def c117 : AC := (.seq (.reg d117_0 g117_0) (.seq (.reg d117_1 g117_1) .ret))
def r117 : List RV := [.tmp 2]
theorem cc117 : (Try.f117.body.bind (cCode Try.prog Try.f117.ntmps)) = some c117 := by kernel_rfl
theorem cr117 : cRes Try.prog Try.f117.results.toList = some r117 := by kernel_rfl
theorem ca117 : callable Try.prog 117 = true := by kernel_rfl
def g118_0 : List G := [⟨(some 2), .mv (.c (.bool false)), none⟩]
def d118_0 : Option (List (List Nat)) := none
def l118_0 : List Nat := []
theorem cd118_0 : dOk d118_0 g118_0 l118_0 = true := by kernel_rfl
def g118_1 : List G := [⟨(some 3), .mv (.t 0), none⟩,
  ⟨(some 4), .bin .eql (.t 3) (.c (.int .i64 (0))), none⟩,
  ⟨(some 5), .mv (.t 4), none⟩,
  ⟨(some 6), .mv (.t 0), some (5, false)⟩,
  ⟨(some 7), .call 117 [(.t 6)], some (5, false)⟩,
  ⟨(some 8), .un .not (.t 7), some (5, false)⟩,
  ⟨(some 9), .pick (.t 5) (.c (.bool true)) (.t 8), none⟩,
  ⟨(some 2), .mv (.t 9), none⟩]
def d118_1 : Option (List (List Nat)) := none
def l118_1 : List Nat := []
theorem cd118_1 : dOk d118_1 g118_1 l118_1 = true := by kernel_rfl
def c118 : AC := (.seq (.reg d118_0 g118_0) (.seq (.reg d118_1 g118_1) .ret))
def r118 : List RV := [.tmp 2]
theorem cc118 : (Try.f118.body.bind (cCode Try.prog Try.f118.ntmps)) = some c118 := by kernel_rfl
theorem cr118 : cRes Try.prog Try.f118.results.toList = some r118 := by kernel_rfl
theorem ca118 : callable Try.prog 118 = true := by kernel_rfl
def g119_0 : List G := [⟨(some 4), .mv (.c (.bool false)), none⟩]
def d119_0 : Option (List (List Nat)) := none
def l119_0 : List Nat := []
theorem cd119_0 : dOk d119_0 g119_0 l119_0 = true := by kernel_rfl
def g119_1 : List G := [⟨(some 5), .mv (.t 0), none⟩,
  ⟨(some 6), .mv (.t 1), none⟩,
  ⟨(some 7), .call 108 [(.t 5), (.t 6)], none⟩,
  ⟨(some 8), .bin .geq (.t 7) (.c (.int .i64 (0))), none⟩,
  ⟨(some 4), .mv (.t 8), none⟩]
def d119_1 : Option (List (List Nat)) := none
def l119_1 : List Nat := []
theorem cd119_1 : dOk d119_1 g119_1 l119_1 = true := by kernel_rfl
def c119 : AC := (.seq (.reg d119_0 g119_0) (.seq (.reg d119_1 g119_1) .ret))
def r119 : List RV := [.tmp 4]
theorem cc119 : (Try.f119.body.bind (cCode Try.prog Try.f119.ntmps)) = some c119 := by kernel_rfl
theorem cr119 : cRes Try.prog Try.f119.results.toList = some r119 := by kernel_rfl
theorem ca119 : callable Try.prog 119 = true := by kernel_rfl
def g120_0 : List G := [⟨(some 3), .box (.t 0), none⟩,
  ⟨(some 4), .mv (.c (.bool false)), none⟩]
def d120_0 : Option (List (List Nat)) := none
def l120_0 : List Nat := []
theorem cd120_0 : dOk d120_0 g120_0 l120_0 = true := by kernel_rfl
def g120_1 : List G := [⟨(some 5), .fa 0 0 (.t 1), none⟩,
  ⟨(some 6), .ld (some 5) (.t 5), none⟩,
  ⟨(some 7), .fa 1 1 (.t 3), none⟩,
  ⟨(some 8), .ld (some 6) (.t 7), none⟩,
  ⟨(some 9), .ld (some 6) (.t 2), none⟩,
  ⟨(some 10), .call 87 [(.t 6), (.t 8), (.t 9)], none⟩,
  ⟨(some 11), .fa 1 5 (.t 1), none⟩,
  ⟨(some 12), .ld none (.t 11), none⟩,
  ⟨(some 13), .bin .mul (.c (.int .i64 (2))) (.t 12), none⟩,
  ⟨(some 14), .bin .leq (.t 10) (.t 13), none⟩,
  ⟨(some 4), .mv (.t 14), none⟩]
def d120_1 : Option (List (List Nat)) := (some [[], [0], [], [2], [], [1, 3, 4], [], [6], [7], [5, 8], [9, 5, 0, 1, 2, 3, 4, 5, 6, 7, 8, 9]])
def l120_1 : List Nat := [0, 1, 0, 4, 0, 31, 0, 64, 192, 511, 1023]
theorem cd120_1 : dOk d120_1 g120_1 l120_1 = true := by kernel_rfl
def c120 : AC := (.seq (.reg d120_0 g120_0) (.seq (.reg d120_1 g120_1) .ret))
def r120 : List RV := [.tmp 4]
theorem cc120 : (Try.f120.body.bind (cCode Try.prog Try.f120.ntmps)) = some c120 := by kernel_rfl
theorem cr120 : cRes Try.prog Try.f120.results.toList = some r120 := by kernel_rfl
theorem ca120 : callable Try.prog 120 = true := by kernel_rfl
def g121_0 : List G := [⟨(some 2), .alloc (.agg [.int .i64 (0), .int .i64 (0), .int .i64 (0), .int .i64 (0), .int .i64 (0), .int .i64 (0)]), none⟩,
  ⟨(some 3), .alloc (.agg [.int .i64 (0), .int .i64 (0), .int .i64 (0), .int .i64 (0), .int .i64 (0), .int .i64 (0)]), none⟩]
def d121_0 : Option (List (List Nat)) := none
def l121_0 : List Nat := []
theorem cd121_0 : dOk d121_0 g121_0 l121_0 = true := by kernel_rfl
def g121_1 : List G := [⟨(some 6), .mv (.c (.int .i64 (0))), none⟩]
def d121_1 : Option (List (List Nat)) := none
def l121_1 : List Nat := []
theorem cd121_1 : dOk d121_1 g121_1 l121_1 = true := by kernel_rfl
def g121_2 : List G := [⟨(some 7), .bin .lss (.t 6) (.c (.int .i64 (6))), none⟩]
def d121_2 : Option (List (List Nat)) := none
def l121_2 : List Nat := []
theorem cd121_2 : dOk d121_2 g121_2 l121_2 = true := by kernel_rfl
def g121_3 : List G := [⟨(some 8), .mv (.t 6), none⟩,
  ⟨(some 4), .mv (.t 8), none⟩]
def d121_3 : Option (List (List Nat)) := none
def l121_3 : List Nat := []
theorem cd121_3 : dOk d121_3 g121_3 l121_3 = true := by kernel_rfl
def g121_4 : List G := [⟨(some 9), .mv (.t 4), none⟩,
  ⟨(some 10), .ia 6 1 (.t 3) (.t 9), none⟩,
  ⟨none, .st none (.t 10) (.c (.int .i64 (4))), none⟩]
def d121_4 : Option (List (List Nat)) := none
def l121_4 : List Nat := []
theorem cd121_4 : dOk d121_4 g121_4 l121_4 = true := by kernel_rfl
def g121_5 : List G := [⟨(some 11), .bin .add (.t 6) (.c (.int .i64 (1))), none⟩,
  ⟨(some 6), .mv (.t 11), none⟩]
def d121_5 : Option (List (List Nat)) := none
def l121_5 : List Nat := []
theorem cd121_5 : dOk d121_5 g121_5 l121_5 = true := by kernel_rfl
def g121_6 : List G := [⟨(some 12), .mv (.t 0), none⟩,
  ⟨(some 13), .ld (some 6) (.t 2), none⟩,
  ⟨(some 14), .callv (.t 12) [(.t 13)], none⟩,
  ⟨(some 15), .mv (.t 14), none⟩,
  ⟨(some 16), .ld (some 6) (.t 2), some (15, true)⟩,
  ⟨(some 17), .ld (some 6) (.t 3), some (15, true)⟩,
  ⟨(some 18), .eqv (.ar 6 (.i .i64)) true (.t 16) (.t 17), some (15, true)⟩,
  ⟨(some 19), .pick (.t 15) (.t 18) (.c (.bool false)), none⟩]
def d121_6 : Option (List (List Nat)) := none
def l121_6 : List Nat := []
theorem cd121_6 : dOk d121_6 g121_6 l121_6 = true := by kernel_rfl
def g121_7 : List G := [⟨(some 5), .mv (.c (.int .i64 (5))), none⟩]
def d121_7 : Option (List (List Nat)) := none
def l121_7 : List Nat := []
theorem cd121_7 : dOk d121_7 g121_7 l121_7 = true := by kernel_rfl
def g121_8 : List G := [⟨(some 20), .mv (.t 5), none⟩,
  ⟨(some 21), .ia 6 1 (.t 2) (.t 20), none⟩,
  ⟨(some 22), .ld none (.t 21), none⟩,
  ⟨(some 23), .bin .eql (.t 22) (.c (.int .i64 (4))), none⟩]
def d121_8 : Option (List (List Nat)) := none
def l121_8 : List Nat := []
theorem cd121_8 : dOk d121_8 g121_8 l121_8 = true := by kernel_rfl
def g121_9 : List G := [⟨(some 24), .mv (.t 5), none⟩,
  ⟨(some 25), .ia 6 1 (.t 2) (.t 24), none⟩,
  ⟨none, .st none (.t 25) (.c (.int .i64 (0))), none⟩]
def d121_9 : Option (List (List Nat)) := none
def l121_9 : List Nat := []
theorem cd121_9 : dOk d121_9 g121_9 l121_9 = true := by kernel_rfl
def g121_10 : List G := [⟨(some 26), .mv (.t 5), none⟩,
  ⟨(some 27), .bin .sub (.t 26) (.c (.int .i64 (1))), none⟩,
  ⟨(some 5), .mv (.t 27), none⟩]
def d121_10 : Option (List (List Nat)) := none
def l121_10 : List Nat := []
theorem cd121_10 : dOk d121_10 g121_10 l121_10 = true := by kernel_rfl
def g121_11 : List G := [⟨(some 28), .mv (.t 5), none⟩,
  ⟨(some 29), .ia 6 1 (.t 2) (.t 28), none⟩,
  ⟨(some 30), .ld none (.t 29), none⟩,
  ⟨(some 31), .bin .add (.t 30) (.c (.int .i64 (1))), none⟩,
  ⟨(some 32), .ia 6 1 (.t 2) (.t 28), none⟩,
  ⟨none, .st none (.t 32) (.t 31), none⟩]
def d121_11 : Option (List (List Nat)) := none
def l121_11 : List Nat := []
theorem cd121_11 : dOk d121_11 g121_11 l121_11 = true := by kernel_rfl
def c121 : AC := (.seq (.reg d121_0 g121_0) (.seq (.seq (.reg d121_1 g121_1) (.block 0 (.loop (.seq (.reg d121_2 g121_2) (.seq (.cond (.t 7) .skip (.exit 0)) (.seq (.block 1 (.seq (.reg d121_3 g121_3) (.reg d121_4 g121_4))) (.reg d121_5 g121_5))))))) (.block 2 (.loop (.seq (.seq (.reg d121_6 g121_6) (.cond (.t 19) .skip (.exit 2))) (.block 3 (.seq (.reg d121_7 g121_7) (.seq (.block 4 (.loop (.seq (.seq (.reg d121_8 g121_8) (.cond (.t 23) .skip (.exit 4))) (.block 5 (.seq (.reg d121_9 g121_9) (.reg d121_10 g121_10)))))) (.reg d121_11 g121_11)))))))))
def r121 : List RV := []
theorem cc121 : (Try.f121.body.bind (cCode Try.prog Try.f121.ntmps)) = some c121 := by kernel_rfl
theorem cr121 : cRes Try.prog Try.f121.results.toList = some r121 := by kernel_rfl
theorem ca121 : callable Try.prog 121 = true := by kernel_rfl
def g122_0 : List G := [⟨(some 6), .mv (.c (.nils 7)), none⟩]
def d122_0 : Option (List (List Nat)) := none
def l122_0 : List Nat := []
theorem cd122_0 : dOk d122_0 g122_0 l122_0 = true := by kernel_rfl
def g122_1 : List G := [⟨(some 10), .mv (.t 0), none⟩,
  ⟨(some 11), .mv (.t 1), none⟩,
  ⟨(some 12), .sl 7 (.t 10) (some (.t 11)) none none, none⟩]
def d122_1 : Option (List (List Nat)) := none
def l122_1 : List Nat := []
theorem cd122_1 : dOk d122_1 g122_1 l122_1 = true := by kernel_rfl
def g122_2 : List G := [⟨(some 13), .mv (.t 2), none⟩,
  ⟨(some 14), .len (.t 13), none⟩,
  ⟨(some 7), .mv (.t 14), none⟩]
def d122_2 : Option (List (List Nat)) := none
def l122_2 : List Nat := []
theorem cd122_2 : dOk d122_2 g122_2 l122_2 = true := by kernel_rfl
def g122_3 : List G := [⟨(some 15), .mv (.t 7), none⟩,
  ⟨(some 16), .bin .eql (.t 15) (.c (.int .i64 (0))), none⟩]
def d122_3 : Option (List (List Nat)) := none
def l122_3 : List Nat := []
theorem cd122_3 : dOk d122_3 g122_3 l122_3 = true := by kernel_rfl
def g122_4 : List G := [⟨(some 17), .mv (.t 0), none⟩,
  ⟨(some 6), .mv (.t 17), none⟩]
def d122_4 : Option (List (List Nat)) := none
def g122_5 : List G := [⟨(some 18), .mv (.t 0), none⟩,
  ⟨(some 19), .len (.t 18), none⟩,
  ⟨(some 8), .mv (.t 19), none⟩]
def d122_5 : Option (List (List Nat)) := none
def l122_5 : List Nat := []
theorem cd122_5 : dOk d122_5 g122_5 l122_5 = true := by kernel_rfl
def g122_6 : List G := [⟨(some 20), .mv (.t 1), none⟩,
  ⟨(some 21), .mv (.t 8), none⟩,
  ⟨(some 22), .bin .eql (.t 20) (.t 21), none⟩]
def d122_6 : Option (List (List Nat)) := none
def l122_6 : List Nat := []
theorem cd122_6 : dOk d122_6 g122_6 l122_6 = true := by kernel_rfl
def g122_7 : List G := [⟨(some 23), .mv (.t 0), none⟩,
  ⟨(some 24), .mv (.t 2), none⟩,
  ⟨(some 25), .app 43 7 56 (.agg [.int .i64 (0), .agg [.int .i64 (0), .int .i64 (0), .int .i64 (0), .int .i64 (0), .int .i64 (0), .int .i64 (0)]]) (.t 23) (.t 24), none⟩,
  ⟨(some 6), .mv (.t 25), none⟩]
def d122_7 : Option (List (List Nat)) := none
def l122_7 : List Nat := []
theorem cd122_7 : dOk d122_7 g122_7 l122_7 = true := by kernel_rfl
def g122_8 : List G := [⟨(some 26), .mv (.t 8), none⟩,
  ⟨(some 27), .mv (.t 7), none⟩,
  ⟨(some 28), .bin .add (.t 26) (.t 27), none⟩,
  ⟨(some 29), .mv (.t 0), none⟩,
  ⟨(some 30), .cap (.t 29), none⟩,
  ⟨(some 31), .bin .gtr (.t 28) (.t 30), none⟩]
def d122_8 : Option (List (List Nat)) := none
def l122_8 : List Nat := []
theorem cd122_8 : dOk d122_8 g122_8 l122_8 = true := by kernel_rfl
def g122_9 : List G := [⟨(some 32), .mv (.t 0), none⟩,
  ⟨(some 33), .mv (.t 1), none⟩,
  ⟨(some 34), .sl 7 (.t 32) none (some (.t 33)) none, none⟩,
  ⟨(some 35), .mv (.t 8), none⟩,
  ⟨(some 36), .mv (.t 7), none⟩,
  ⟨(some 37), .bin .add (.t 35) (.t 36), none⟩,
  ⟨(some 38), .mv (.t 1), none⟩,
  ⟨(some 39), .bin .sub (.t 37) (.t 38), none⟩,
  ⟨(some 40), .apz 43 7 56 (.agg [.int .i64 (0), .agg [.int .i64 (0), .int .i64 (0), .int .i64 (0), .int .i64 (0), .int .i64 (0), .int .i64 (0)]]) (.t 34) (.t 39), none⟩,
  ⟨(some 9), .mv (.t 40), none⟩]
def d122_9 : Option (List (List Nat)) := none
def l122_9 : List Nat := []
theorem cd122_9 : dOk d122_9 g122_9 l122_9 = true := by kernel_rfl
def g122_10 : List G := [⟨(some 41), .mv (.t 9), none⟩,
  ⟨(some 42), .mv (.t 1), none⟩,
  ⟨(some 43), .sl 7 (.t 41) (some (.t 42)) none none, none⟩,
  ⟨(some 44), .mv (.t 2), none⟩,
  ⟨(some 45), .cpy 7 (.t 43) (.t 44), none⟩]
def d122_10 : Option (List (List Nat)) := none
def l122_10 : List Nat := []
theorem cd122_10 : dOk d122_10 g122_10 l122_10 = true := by kernel_rfl
def g122_11 : List G := [⟨(some 46), .mv (.t 9), none⟩,
  ⟨(some 47), .mv (.t 1), none⟩,
  ⟨(some 48), .mv (.t 7), none⟩,
  ⟨(some 49), .bin .add (.t 47) (.t 48), none⟩,
  ⟨(some 50), .sl 7 (.t 46) (some (.t 49)) none none, none⟩,
  ⟨(some 51), .mv (.t 0), none⟩,
  ⟨(some 52), .mv (.t 1), none⟩,
  ⟨(some 53), .sl 7 (.t 51) (some (.t 52)) none none, none⟩,
  ⟨(some 54), .cpy 7 (.t 50) (.t 53), none⟩]
def d122_11 : Option (List (List Nat)) := (some [[], [], [], [1, 2], [0, 3], [], [], [5, 6], [4, 7]])
def l122_11 : List Nat := [0, 0, 0, 6, 15, 0, 0, 96, 255]
theorem cd122_11 : dOk d122_11 g122_11 l122_11 = true := by kernel_rfl
def g122_12 : List G := [⟨(some 55), .mv (.t 9), none⟩,
  ⟨(some 6), .mv (.t 55), none⟩]
def d122_12 : Option (List (List Nat)) := none
def l122_12 : List Nat := []
theorem cd122_12 : dOk d122_12 g122_12 l122_12 = true := by kernel_rfl
def g122_13 : List G := [⟨(some 56), .mv (.t 0), none⟩,
  ⟨(some 57), .mv (.t 8), none⟩,
  ⟨(some 58), .mv (.t 7), none⟩,
  ⟨(some 59), .bin .add (.t 57) (.t 58), none⟩,
  ⟨(some 60), .sl 7 (.t 56) none (some (.t 59)) none, none⟩,
  ⟨(some 0), .mv (.t 60), none⟩]
def d122_13 : Option (List (List Nat)) := none
def l122_13 : List Nat := []
theorem cd122_13 : dOk d122_13 g122_13 l122_13 = true := by kernel_rfl
def g122_14 : List G := [⟨(some 61), .mv (.t 2), none⟩,
  ⟨(some 62), .mv (.t 0), none⟩,
  ⟨(some 63), .mv (.t 1), none⟩,
  ⟨(some 64), .mv (.t 7), none⟩,
  ⟨(some 65), .bin .add (.t 63) (.t 64), none⟩,
  ⟨(some 66), .sl 7 (.t 62) (some (.t 65)) none none, none⟩,
  ⟨(some 67), .xcall 124 [(.t 61), (.t 66)], none⟩,
  ⟨(some 68), .un .not (.t 67), none⟩]
def d122_14 : Option (List (List Nat)) := none
def l122_14 : List Nat := []
theorem cd122_14 : dOk d122_14 g122_14 l122_14 = true := by kernel_rfl
def g122_15 : List G := [⟨(some 69), .mv (.t 0), none⟩,
  ⟨(some 70), .mv (.t 1), none⟩,
  ⟨(some 71), .mv (.t 7), none⟩,
  ⟨(some 72), .bin .add (.t 70) (.t 71), none⟩,
  ⟨(some 73), .sl 7 (.t 69) (some (.t 72)) none none, none⟩,
  ⟨(some 74), .mv (.t 0), none⟩,
  ⟨(some 75), .mv (.t 1), none⟩,
  ⟨(some 76), .sl 7 (.t 74) (some (.t 75)) none none, none⟩,
  ⟨(some 77), .cpy 7 (.t 73) (.t 76), none⟩]
def d122_15 : Option (List (List Nat)) := (some [[], [], [], [1, 2], [0, 3], [], [], [5, 6], [4, 7]])
def l122_15 : List Nat := [0, 0, 0, 6, 15, 0, 0, 96, 255]
theorem cd122_15 : dOk d122_15 g122_15 l122_15 = true := by kernel_rfl
def g122_16 : List G := [⟨(some 78), .mv (.t 0), none⟩,
  ⟨(some 79), .mv (.t 1), none⟩,
  ⟨(some 80), .sl 7 (.t 78) (some (.t 79)) none none, none⟩,
  ⟨(some 81), .mv (.t 2), none⟩,
  ⟨(some 82), .cpy 7 (.t 80) (.t 81), none⟩]
def d122_16 : Option (List (List Nat)) := none
def l122_16 : List Nat := []
theorem cd122_16 : dOk d122_16 g122_16 l122_16 = true := by kernel_rfl
def g122_17 : List G := [⟨(some 83), .mv (.t 0), none⟩,
  ⟨(some 6), .mv (.t 83), none⟩]
def d122_17 : Option (List (List Nat)) := none
def l122_17 : List Nat := []
theorem cd122_17 : dOk d122_17 g122_17 l122_17 = true := by kernel_rfl
def g122_18 : List G := [⟨(some 84), .mv (.t 0), none⟩,
  ⟨(some 85), .mv (.t 8), none⟩,
  ⟨(some 86), .sl 7 (.t 84) (some (.t 85)) none none, none⟩,
  ⟨(some 87), .mv (.t 2), none⟩,
  ⟨(some 88), .cpy 7 (.t 86) (.t 87), none⟩]
def d122_18 : Option (List (List Nat)) := none
def g122_19 : List G := [⟨(some 89), .mv (.t 0), none⟩,
  ⟨(some 90), .mv (.t 1), none⟩,
  ⟨(some 91), .sl 7 (.t 89) (some (.t 90)) none none, none⟩,
  ⟨(some 92), .mv (.t 7), none⟩,
  ⟨(some 93), .call 125 [(.t 91), (.t 92)], none⟩]
def d122_19 : Option (List (List Nat)) := none
def g122_20 : List G := [⟨(some 94), .mv (.t 0), none⟩,
  ⟨(some 6), .mv (.t 94), none⟩]
def d122_20 : Option (List (List Nat)) := none
def c122 : AC := (.seq (.reg d122_0 g122_0) (.seq (.reg d122_1 g122_1) (.seq (.reg d122_2 g122_2) (.seq (.seq (.reg d122_3 g122_3) (.cond (.t 16) (.seq (.reg d122_4 g122_4) .ret) .skip)) (.seq (.reg d122_5 g122_5) (.seq (.seq (.reg d122_6 g122_6) (.cond (.t 22) (.seq (.reg d122_7 g122_7) .ret) .skip)) (.seq (.seq (.reg d122_8 g122_8) (.cond (.t 31) (.seq (.reg d122_9 g122_9) (.seq (.reg d122_10 g122_10) (.seq (.reg d122_11 g122_11) (.seq (.reg d122_12 g122_12) .ret)))) .skip)) (.seq (.reg d122_13 g122_13) (.seq (.seq (.reg d122_14 g122_14) (.cond (.t 68) (.seq (.reg d122_15 g122_15) (.seq (.reg d122_16 g122_16) (.seq (.reg d122_17 g122_17) .ret))) .skip)) (.seq (.reg d122_18 g122_18) (.seq (.reg d122_19 g122_19) (.seq (.reg d122_20 g122_20) .ret))))))))))))
def r122 : List RV := [.tmp 6]
theorem cc122 : (Try.f122.body.bind (cCode Try.prog Try.f122.ntmps)) = some c122 := by kernel_rfl
theorem cr122 : cRes Try.prog Try.f122.results.toList = some r122 := by kernel_rfl
theorem ca122 : callable Try.prog 122 = true := by kernel_rfl
def g123_0 : List G := [⟨(some 2), .mv (.c (.bool false)), none⟩]
def d123_0 : Option (List (List Nat)) := none
def l123_0 : List Nat := []
theorem cd123_0 : dOk d123_0 g123_0 l123_0 = true := by kernel_rfl
def g123_1 : List G := [⟨(some 3), .mv (.t 0), none⟩,
  ⟨(some 4), .mv (.t 0), none⟩,
  ⟨(some 5), .bin .neq (.t 3) (.t 4), none⟩,
  ⟨(some 2), .mv (.t 5), none⟩]
def d123_1 : Option (List (List Nat)) := none
def l123_1 : List Nat := []
theorem cd123_1 : dOk d123_1 g123_1 l123_1 = true := by kernel_rfl
def c123 : AC := (.seq (.reg d123_0 g123_0) (.seq (.reg d123_1 g123_1) .ret))
def r123 : List RV := [.tmp 2]
theorem cc123 : (Try.f123.body.bind (cCode Try.prog Try.f123.ntmps)) = some c123 := by kernel_rfl
theorem cr123 : cRes Try.prog Try.f123.results.toList = some r123 := by kernel_rfl
theorem ca123 : callable Try.prog 123 = true := by kernel_rfl
end Go.Proofs.Ytkjkbpgdpnapfaa

/-
  THE SEAT'S FUNCTIONS, READ (part 1): the code of each as the abstract layer reads it, by program; each tie is a closed fact.
-/
namespace Go.Proofs.Ytkjkbpgdpnapfaa
open Go Go.Abs
def g34_0 : List G := [⟨(some 2), .alloc (.agg [.int .i64 (0), .int .i64 (0), .int .i64 (0), .int .i64 (0), .int .i64 (0)]), none⟩]
def d34_0 : Option (List (List Nat)) := none
def l34_0 : List Nat := []
theorem cd34_0 : dOk d34_0 g34_0 l34_0 = true := by kernel_rfl
def g34_1 : List G := [⟨(some 3), .alloc (.agg [.int .i64 (0), .int .i64 (0), .int .i64 (0), .int .i64 (0), .int .i64 (0)]), none⟩]
def d34_1 : Option (List (List Nat)) := none
def l34_1 : List Nat := []
theorem cd34_1 : dOk d34_1 g34_1 l34_1 = true := by kernel_rfl
def g34_2 : List G := [⟨(some 4), .mv (.c (.int .i64 (0))), none⟩]
def d34_2 : Option (List (List Nat)) := none
def l34_2 : List Nat := []
theorem cd34_2 : dOk d34_2 g34_2 l34_2 = true := by kernel_rfl
def g34_3 : List G := [⟨(some 6), .mv (.t 4), none⟩,
  ⟨(some 7), .bin .lss (.t 6) (.c (.int .i64 (5))), none⟩]
def d34_3 : Option (List (List Nat)) := none
def l34_3 : List Nat := []
theorem cd34_3 : dOk d34_3 g34_3 l34_3 = true := by kernel_rfl
def g34_4 : List G := [⟨(some 10), .mv (.t 4), none⟩,
  ⟨(some 11), .mv (.t 4), none⟩,
  ⟨(some 12), .bin .shl (.c (.int .i64 (1))) (.t 11), none⟩,
  ⟨(some 13), .ia 5 1 (.t 3) (.t 10), none⟩,
  ⟨none, .st none (.t 13) (.t 12), none⟩]
def d34_4 : Option (List (List Nat)) := none
def l34_4 : List Nat := []
theorem cd34_4 : dOk d34_4 g34_4 l34_4 = true := by kernel_rfl
def g34_5 : List G := [⟨(some 14), .mv (.t 0), none⟩,
  ⟨(some 15), .mv (.t 4), none⟩,
  ⟨(some 16), .call 25 [(.t 14), (.t 15)], none⟩,
  ⟨(some 17), .call 23 [(.t 16), (.c (.int .i64 (12)))], none⟩,
  ⟨(some 5), .mv (.t 17), none⟩]
def d34_5 : Option (List (List Nat)) := none
def l34_5 : List Nat := []
theorem cd34_5 : dOk d34_5 g34_5 l34_5 = true := by kernel_rfl
def g34_6 : List G := [⟨(some 18), .mv (.t 5), none⟩,
  ⟨(some 19), .bin .lss (.t 18) (.c (.int .i64 (5))), none⟩]
def d34_6 : Option (List (List Nat)) := none
def l34_6 : List Nat := []
theorem cd34_6 : dOk d34_6 g34_6 l34_6 = true := by kernel_rfl
def g34_7 : List G := [⟨(some 20), .mv (.t 4), none⟩,
  ⟨(some 21), .mv (.t 4), none⟩,
  ⟨(some 22), .ia 5 1 (.t 3) (.t 21), none⟩,
  ⟨(some 23), .ld none (.t 22), none⟩,
  ⟨(some 24), .mv (.t 5), none⟩,
  ⟨(some 25), .bin .shl (.c (.int .i64 (1))) (.t 24), none⟩,
  ⟨(some 26), .bin .or (.t 23) (.t 25), none⟩,
  ⟨(some 27), .ia 5 1 (.t 3) (.t 20), none⟩,
  ⟨none, .st none (.t 27) (.t 26), none⟩]
def d34_7 : Option (List (List Nat)) := (some [[], [], [1], [2], [], [4], [3, 5], [0, 0, 1, 2, 3, 4, 5, 6], [7, 6, 0, 1, 2, 3, 4, 5, 6]])
def l34_7 : List Nat := [0, 0, 2, 6, 0, 16, 62, 127, 255]
theorem cd34_7 : dOk d34_7 g34_7 l34_7 = true := by kernel_rfl
def g34_8 : List G := [⟨(some 8), .mv (.t 4), none⟩,
  ⟨(some 9), .bin .add (.t 8) (.c (.int .i64 (1))), none⟩,
  ⟨(some 4), .mv (.t 9), none⟩]
def d34_8 : Option (List (List Nat)) := none
def l34_8 : List Nat := []
theorem cd34_8 : dOk d34_8 g34_8 l34_8 = true := by kernel_rfl
def g34_9 : List G := [⟨(some 28), .ld (some 5) (.t 3), none⟩,
  ⟨none, .st (some 5) (.t 2) (.t 28), none⟩]
def d34_9 : Option (List (List Nat)) := none
def l34_9 : List Nat := []
theorem cd34_9 : dOk d34_9 g34_9 l34_9 = true := by kernel_rfl
def c34 : AC := (.seq (.reg d34_0 g34_0) (.seq (.reg d34_1 g34_1) (.seq (.seq (.reg d34_2 g34_2) (.block 0 (.loop (.seq (.seq (.reg d34_3 g34_3) (.cond (.t 7) .skip (.exit 0))) (.seq (.block 1 (.seq (.reg d34_4 g34_4) (.seq (.reg d34_5 g34_5) (.seq (.reg d34_6 g34_6) (.cond (.t 19) (.reg d34_7 g34_7) .skip))))) (.reg d34_8 g34_8)))))) (.seq (.reg d34_9 g34_9) .ret))))
def r34 : List RV := [.cell 2 (some 5)]
theorem cc34 : (Try.f34.body.bind (cCode Try.prog Try.f34.ntmps)) = some c34 := by kernel_rfl
theorem cr34 : cRes Try.prog Try.f34.results.toList = some r34 := by kernel_rfl
theorem ca34 : callable Try.prog 34 = true := by kernel_rfl
def g35_0 : List G := [⟨(some 2), .alloc (.agg [.int .i64 (0), .int .i64 (0), .int .i64 (0), .int .i64 (0), .int .i64 (0), .int .i64 (0)]), none⟩]
def d35_0 : Option (List (List Nat)) := none
def l35_0 : List Nat := []
theorem cd35_0 : dOk d35_0 g35_0 l35_0 = true := by kernel_rfl
def g35_1 : List G := [⟨(some 3), .alloc (.agg [.int .i64 (0), .int .i64 (0), .int .i64 (0), .int .i64 (0), .int .i64 (0), .int .i64 (0)]), none⟩]
def d35_1 : Option (List (List Nat)) := none
def l35_1 : List Nat := []
theorem cd35_1 : dOk d35_1 g35_1 l35_1 = true := by kernel_rfl
def g35_2 : List G := [⟨(some 4), .mv (.c (.int .i64 (5))), none⟩]
def d35_2 : Option (List (List Nat)) := none
def l35_2 : List Nat := []
theorem cd35_2 : dOk d35_2 g35_2 l35_2 = true := by kernel_rfl
def g35_3 : List G := [⟨(some 5), .mv (.t 4), none⟩,
  ⟨(some 6), .bin .geq (.t 5) (.c (.int .i64 (0))), none⟩]
def d35_3 : Option (List (List Nat)) := none
def l35_3 : List Nat := []
theorem cd35_3 : dOk d35_3 g35_3 l35_3 = true := by kernel_rfl
def g35_4 : List G := [⟨(some 9), .mv (.t 4), none⟩,
  ⟨(some 10), .mv (.t 0), none⟩,
  ⟨(some 11), .bin .rem (.t 10) (.c (.int .i64 (5))), none⟩,
  ⟨(some 12), .ia 6 1 (.t 3) (.t 9), none⟩,
  ⟨none, .st none (.t 12) (.t 11), none⟩]
def d35_4 : Option (List (List Nat)) := none
def l35_4 : List Nat := []
theorem cd35_4 : dOk d35_4 g35_4 l35_4 = true := by kernel_rfl
def g35_5 : List G := [⟨(some 13), .mv (.t 0), none⟩,
  ⟨(some 14), .bin .quo (.t 13) (.c (.int .i64 (5))), none⟩,
  ⟨(some 0), .mv (.t 14), none⟩]
def d35_5 : Option (List (List Nat)) := none
def l35_5 : List Nat := []
theorem cd35_5 : dOk d35_5 g35_5 l35_5 = true := by kernel_rfl
def g35_6 : List G := [⟨(some 7), .mv (.t 4), none⟩,
  ⟨(some 8), .bin .sub (.t 7) (.c (.int .i64 (1))), none⟩,
  ⟨(some 4), .mv (.t 8), none⟩]
def d35_6 : Option (List (List Nat)) := none
def l35_6 : List Nat := []
theorem cd35_6 : dOk d35_6 g35_6 l35_6 = true := by kernel_rfl
def g35_7 : List G := [⟨(some 15), .ld (some 6) (.t 3), none⟩,
  ⟨none, .st (some 6) (.t 2) (.t 15), none⟩]
def d35_7 : Option (List (List Nat)) := none
def l35_7 : List Nat := []
theorem cd35_7 : dOk d35_7 g35_7 l35_7 = true := by kernel_rfl
def c35 : AC := (.seq (.reg d35_0 g35_0) (.seq (.reg d35_1 g35_1) (.seq (.seq (.reg d35_2 g35_2) (.block 0 (.loop (.seq (.seq (.reg d35_3 g35_3) (.cond (.t 6) .skip (.exit 0))) (.seq (.block 1 (.seq (.reg d35_4 g35_4) (.reg d35_5 g35_5))) (.reg d35_6 g35_6)))))) (.seq (.reg d35_7 g35_7) .ret))))
def r35 : List RV := [.cell 2 (some 6)]
theorem cc35 : (Try.f35.body.bind (cCode Try.prog Try.f35.ntmps)) = some c35 := by kernel_rfl
theorem cr35 : cRes Try.prog Try.f35.results.toList = some r35 := by kernel_rfl
theorem ca35 : callable Try.prog 35 = true := by kernel_rfl
def g36_0 : List G := [⟨(some 3), .box (.t 0), none⟩,
  ⟨(some 4), .box (.t 1), none⟩,
  ⟨(some 5), .box (.t 2), none⟩,
  ⟨(some 6), .mv (.c (.int .i64 (0))), none⟩,
  ⟨(some 7), .mv (.c (.int .i64 (0))), none⟩]
def d36_0 : Option (List (List Nat)) := none
def l36_0 : List Nat := []
theorem cd36_0 : dOk d36_0 g36_0 l36_0 = true := by kernel_rfl
def g36_1 : List G := [⟨(some 9), .ld (some 5) (.t 3), none⟩,
  ⟨(some 10), .call 43 [(.t 9)], none⟩,
  ⟨(some 11), .ld (some 6) (.t 4), none⟩,
  ⟨(some 12), .call 41 [(.t 11)], none⟩,
  ⟨(some 13), .ld (some 6) (.t 5), none⟩,
  ⟨(some 14), .call 41 [(.t 13)], none⟩,
  ⟨(some 15), .bs 1 [(.t 10), (.t 12), (.t 14)], none⟩,
  ⟨(some 16), .call 64 [(.t 15)], none⟩,
  ⟨(some 8), .mv (.t 16), none⟩]
def d36_1 : Option (List (List Nat)) := (some [[], [0], [], [2, 1], [], [4, 3], [1, 3, 5], [6, 5], [7, 7, 0, 1, 2, 3, 4, 5, 6, 7]])
def l36_1 : List Nat := [0, 1, 0, 7, 0, 31, 63, 127, 255]
theorem cd36_1 : dOk d36_1 g36_1 l36_1 = true := by kernel_rfl
def g36_2 : List G := [⟨(some 17), .mv (.t 8), none⟩,
  ⟨(some 18), .bin .neq (.t 17) (.c (.int .i64 (0))), none⟩]
def d36_2 : Option (List (List Nat)) := none
def l36_2 : List Nat := []
theorem cd36_2 : dOk d36_2 g36_2 l36_2 = true := by kernel_rfl
def g36_3 : List G := [⟨(some 19), .mv (.t 8), none⟩,
  ⟨(some 6), .mv (.c (.int .i64 (0))), none⟩,
  ⟨(some 7), .mv (.t 19), none⟩]
def d36_3 : Option (List (List Nat)) := none
def l36_3 : List Nat := []
theorem cd36_3 : dOk d36_3 g36_3 l36_3 = true := by kernel_rfl
def g36_4 : List G := [⟨(some 20), .ld (some 5) (.t 3), none⟩,
  ⟨(some 21), .ld (some 6) (.t 4), none⟩,
  ⟨(some 22), .ld (some 6) (.t 5), none⟩,
  ⟨(some 23), .call 87 [(.t 20), (.t 21), (.t 22)], none⟩,
  ⟨(some 6), .mv (.t 23), none⟩,
  ⟨(some 7), .mv (.c (.int .i64 (0))), none⟩]
def d36_4 : Option (List (List Nat)) := none
def l36_4 : List Nat := []
theorem cd36_4 : dOk d36_4 g36_4 l36_4 = true := by kernel_rfl
def c36 : AC := (.seq (.reg d36_0 g36_0) (.seq (.seq (.reg d36_1 g36_1) (.seq (.reg d36_2 g36_2) (.cond (.t 18) (.seq (.reg d36_3 g36_3) .ret) .skip))) (.seq (.reg d36_4 g36_4) .ret)))
def r36 : List RV := [.tmp 6, .tmp 7]
theorem cc36 : (Try.f36.body.bind (cCode Try.prog Try.f36.ntmps)) = some c36 := by kernel_rfl
theorem cr36 : cRes Try.prog Try.f36.results.toList = some r36 := by kernel_rfl
theorem ca36 : callable Try.prog 36 = true := by kernel_rfl
def g39_0 : List G := [⟨(some 2), .box (.t 0), none⟩,
  ⟨(some 4), .alloc (.agg [.int .i64 (0), .int .i64 (0), .int .i64 (0), .int .i64 (0), .int .i64 (0), .int .i64 (0)]), none⟩,
  ⟨(some 5), .mv (.c (.int .i64 (0))), none⟩]
def d39_0 : Option (List (List Nat)) := none
def l39_0 : List Nat := []
theorem cd39_0 : dOk d39_0 g39_0 l39_0 = true := by kernel_rfl
def g39_1 : List G := [⟨(some 9), .ld (some 7) (.t 2), none⟩,
  ⟨(some 10), .mv (.t 1), none⟩,
  ⟨(some 11), .call 90 [(.t 9), (.t 10)], none⟩,
  ⟨(some 6), .mv (.t 11), none⟩]
def d39_1 : Option (List (List Nat)) := none
def l39_1 : List Nat := []
theorem cd39_1 : dOk d39_1 g39_1 l39_1 = true := by kernel_rfl
def g39_2 : List G := [⟨(some 12), .mv (.t 6), none⟩,
  ⟨(some 13), .bin .neq (.t 12) (.c (.int .i64 (0))), none⟩]
def d39_2 : Option (List (List Nat)) := none
def l39_2 : List Nat := []
theorem cd39_2 : dOk d39_2 g39_2 l39_2 = true := by kernel_rfl
def g39_3 : List G := [⟨(some 14), .bld [.int .i64 (0), .int .i64 (0), .int .i64 (0), .int .i64 (0), .int .i64 (0), .int .i64 (0)] [], none⟩,
  ⟨(some 15), .mv (.t 6), none⟩,
  ⟨none, .st (some 6) (.t 4) (.t 14), none⟩,
  ⟨(some 5), .mv (.t 15), none⟩]
def d39_3 : Option (List (List Nat)) := none
def l39_3 : List Nat := []
theorem cd39_3 : dOk d39_3 g39_3 l39_3 = true := by kernel_rfl
def g39_4 : List G := [⟨(some 17), .ld (some 7) (.t 2), none⟩,
  ⟨(some 18), .mv (.t 1), none⟩,
  ⟨(some 19), .call 91 [(.t 17), (.t 18)], none⟩,
  ⟨(some 16), .mv (.t 19), none⟩,
  ⟨(some 20), .ext (.t 16) 0, none⟩,
  ⟨(some 21), .ext (.t 16) 1, none⟩,
  ⟨(some 7), .mv (.t 20), none⟩,
  ⟨(some 8), .mv (.t 21), none⟩]
def d39_4 : Option (List (List Nat)) := none
def l39_4 : List Nat := []
theorem cd39_4 : dOk d39_4 g39_4 l39_4 = true := by kernel_rfl
def g39_5 : List G := [⟨(some 22), .mv (.t 8), none⟩,
  ⟨(some 23), .un .not (.t 22), none⟩]
def d39_5 : Option (List (List Nat)) := none
def l39_5 : List Nat := []
theorem cd39_5 : dOk d39_5 g39_5 l39_5 = true := by kernel_rfl
def g39_6 : List G := [⟨(some 24), .bld [.int .i64 (0), .int .i64 (0), .int .i64 (0), .int .i64 (0), .int .i64 (0), .int .i64 (0)] [], none⟩,
  ⟨none, .st (some 6) (.t 4) (.t 24), none⟩,
  ⟨(some 5), .mv (.c (.int .i64 (3))), none⟩]
def d39_6 : Option (List (List Nat)) := none
def l39_6 : List Nat := []
theorem cd39_6 : dOk d39_6 g39_6 l39_6 = true := by kernel_rfl
def g39_7 : List G := [⟨(some 25), .fa 2 6 (.t 2), none⟩,
  ⟨(some 26), .ld none (.t 25), none⟩,
  ⟨(some 27), .mv (.t 7), none⟩,
  ⟨(some 28), .is 7 (.t 26) (.t 27), none⟩,
  ⟨(some 29), .fa 1 1 (.t 28), none⟩,
  ⟨(some 30), .ld (some 6) (.t 29), none⟩,
  ⟨none, .st (some 6) (.t 4) (.t 30), none⟩,
  ⟨(some 5), .mv (.c (.int .i64 (0))), none⟩]
def d39_7 : Option (List (List Nat)) := none
def l39_7 : List Nat := []
theorem cd39_7 : dOk d39_7 g39_7 l39_7 = true := by kernel_rfl
def c39 : AC := (.seq (.reg d39_0 g39_0) (.seq (.seq (.reg d39_1 g39_1) (.seq (.reg d39_2 g39_2) (.cond (.t 13) (.seq (.reg d39_3 g39_3) .ret) .skip))) (.seq (.reg d39_4 g39_4) (.seq (.seq (.reg d39_5 g39_5) (.cond (.t 23) (.seq (.reg d39_6 g39_6) .ret) .skip)) (.seq (.reg d39_7 g39_7) .ret)))))
def r39 : List RV := [.cell 4 (some 6), .tmp 5]
theorem cc39 : (Try.f39.body.bind (cCode Try.prog Try.f39.ntmps)) = some c39 := by kernel_rfl
theorem cr39 : cRes Try.prog Try.f39.results.toList = some r39 := by kernel_rfl
theorem ca39 : callable Try.prog 39 = true := by kernel_rfl
def g41_0 : List G := [⟨(some 1), .box (.t 0), none⟩,
  ⟨(some 2), .mv (.c (.int .i64 (0))), none⟩]
def d41_0 : Option (List (List Nat)) := none
def l41_0 : List Nat := []
theorem cd41_0 : dOk d41_0 g41_0 l41_0 = true := by kernel_rfl
def g41_1 : List G := [⟨(some 3), .ld (some 6) (.t 1), none⟩,
  ⟨(some 4), .call 93 [(.t 3)], none⟩,
  ⟨(some 5), .un .not (.t 4), none⟩]
def d41_1 : Option (List (List Nat)) := none
def l41_1 : List Nat := []
theorem cd41_1 : dOk d41_1 g41_1 l41_1 = true := by kernel_rfl
def g41_2 : List G := [⟨(some 2), .mv (.c (.int .i64 (10))), none⟩]
def d41_2 : Option (List (List Nat)) := none
def l41_2 : List Nat := []
theorem cd41_2 : dOk d41_2 g41_2 l41_2 = true := by kernel_rfl
def g41_3 : List G := [⟨(some 2), .mv (.c (.int .i64 (0))), none⟩]
def d41_3 : Option (List (List Nat)) := none
def l41_3 : List Nat := []
theorem cd41_3 : dOk d41_3 g41_3 l41_3 = true := by kernel_rfl
def c41 : AC := (.seq (.reg d41_0 g41_0) (.seq (.seq (.reg d41_1 g41_1) (.cond (.t 5) (.seq (.reg d41_2 g41_2) .ret) .skip)) (.seq (.reg d41_3 g41_3) .ret)))
def r41 : List RV := [.tmp 2]
theorem cc41 : (Try.f41.body.bind (cCode Try.prog Try.f41.ntmps)) = some c41 := by kernel_rfl
theorem cr41 : cRes Try.prog Try.f41.results.toList = some r41 := by kernel_rfl
theorem ca41 : callable Try.prog 41 = true := by kernel_rfl
def g43_0 : List G := [⟨(some 1), .box (.t 0), none⟩,
  ⟨(some 2), .mv (.c (.int .i64 (0))), none⟩]
def d43_0 : Option (List (List Nat)) := none
def l43_0 : List Nat := []
theorem cd43_0 : dOk d43_0 g43_0 l43_0 = true := by kernel_rfl
def g43_1 : List G := [⟨(some 3), .ld (some 5) (.t 1), none⟩,
  ⟨(some 4), .call 95 [(.t 3)], none⟩,
  ⟨(some 5), .un .not (.t 4), none⟩]
def d43_1 : Option (List (List Nat)) := none
def l43_1 : List Nat := []
theorem cd43_1 : dOk d43_1 g43_1 l43_1 = true := by kernel_rfl
def g43_2 : List G := [⟨(some 2), .mv (.c (.int .i64 (11))), none⟩]
def d43_2 : Option (List (List Nat)) := none
def l43_2 : List Nat := []
theorem cd43_2 : dOk d43_2 g43_2 l43_2 = true := by kernel_rfl
def g43_3 : List G := [⟨(some 2), .mv (.c (.int .i64 (0))), none⟩]
def d43_3 : Option (List (List Nat)) := none
def l43_3 : List Nat := []
theorem cd43_3 : dOk d43_3 g43_3 l43_3 = true := by kernel_rfl
def c43 : AC := (.seq (.reg d43_0 g43_0) (.seq (.seq (.reg d43_1 g43_1) (.cond (.t 5) (.seq (.reg d43_2 g43_2) .ret) .skip)) (.seq (.reg d43_3 g43_3) .ret)))
def r43 : List RV := [.tmp 2]
theorem cc43 : (Try.f43.body.bind (cCode Try.prog Try.f43.ntmps)) = some c43 := by kernel_rfl
theorem cr43 : cRes Try.prog Try.f43.results.toList = some r43 := by kernel_rfl
theorem ca43 : callable Try.prog 43 = true := by kernel_rfl
def g45_0 : List G := [⟨(some 1), .box (.t 0), none⟩,
  ⟨(some 2), .mv (.c (.int .i64 (0))), none⟩]
def d45_0 : Option (List (List Nat)) := none
def l45_0 : List Nat := []
theorem cd45_0 : dOk d45_0 g45_0 l45_0 = true := by kernel_rfl
def g45_1 : List G := [⟨(some 3), .ld (some 6) (.t 1), none⟩,
  ⟨(some 4), .call 96 [(.t 3)], none⟩,
  ⟨(some 5), .un .not (.t 4), none⟩]
def d45_1 : Option (List (List Nat)) := none
def l45_1 : List Nat := []
theorem cd45_1 : dOk d45_1 g45_1 l45_1 = true := by kernel_rfl
def g45_2 : List G := [⟨(some 2), .mv (.c (.int .i64 (12))), none⟩]
def d45_2 : Option (List (List Nat)) := none
def l45_2 : List Nat := []
theorem cd45_2 : dOk d45_2 g45_2 l45_2 = true := by kernel_rfl
def g45_3 : List G := [⟨(some 2), .mv (.c (.int .i64 (0))), none⟩]
def d45_3 : Option (List (List Nat)) := none
def l45_3 : List Nat := []
theorem cd45_3 : dOk d45_3 g45_3 l45_3 = true := by kernel_rfl
def c45 : AC := (.seq (.reg d45_0 g45_0) (.seq (.seq (.reg d45_1 g45_1) (.cond (.t 5) (.seq (.reg d45_2 g45_2) .ret) .skip)) (.seq (.reg d45_3 g45_3) .ret)))
def r45 : List RV := [.tmp 2]
theorem cc45 : (Try.f45.body.bind (cCode Try.prog Try.f45.ntmps)) = some c45 := by kernel_rfl
theorem cr45 : cRes Try.prog Try.f45.results.toList = some r45 := by kernel_rfl
theorem ca45 : callable Try.prog 45 = true := by kernel_rfl
def g47_0 : List G := [⟨(some 1), .box (.t 0), none⟩,
  ⟨(some 2), .mv (.c (.int .i64 (0))), none⟩]
def d47_0 : Option (List (List Nat)) := none
def l47_0 : List Nat := []
theorem cd47_0 : dOk d47_0 g47_0 l47_0 = true := by kernel_rfl
def g47_1 : List G := [⟨(some 5), .fa 0 0 (.t 1), none⟩,
  ⟨(some 6), .ld (some 5) (.t 5), none⟩,
  ⟨(some 7), .call 95 [(.t 6)], none⟩,
  ⟨(some 8), .un .not (.t 7), none⟩,
  ⟨(some 9), .mv (.t 8), none⟩,
  ⟨(some 10), .fa 1 5 (.t 1), some (9, false)⟩,
  ⟨(some 11), .ld none (.t 10), some (9, false)⟩,
  ⟨(some 12), .call 89 [(.t 11), (.c (.int .i64 (0))), (.c (.int .i64 (2)))], some (9, false)⟩,
  ⟨(some 13), .un .not (.t 12), some (9, false)⟩,
  ⟨(some 14), .pick (.t 9) (.c (.bool true)) (.t 13), none⟩,
  ⟨(some 15), .mv (.t 14), none⟩,
  ⟨(some 16), .fa 2 6 (.t 1), some (15, false)⟩,
  ⟨(some 17), .ld none (.t 16), some (15, false)⟩,
  ⟨(some 18), .len (.t 17), some (15, false)⟩,
  ⟨(some 19), .bin .gtr (.t 18) (.c (.int .i64 (40))), some (15, false)⟩,
  ⟨(some 20), .pick (.t 15) (.c (.bool true)) (.t 19), none⟩]
def d47_1 : Option (List (List Nat)) := none
def l47_1 : List Nat := []
theorem cd47_1 : dOk d47_1 g47_1 l47_1 = true := by kernel_rfl
def g47_2 : List G := [⟨(some 2), .mv (.c (.int .i64 (13))), none⟩]
def d47_2 : Option (List (List Nat)) := none
def l47_2 : List Nat := []
theorem cd47_2 : dOk d47_2 g47_2 l47_2 = true := by kernel_rfl
def g47_3 : List G := [⟨(some 21), .fa 2 6 (.t 1), none⟩,
  ⟨(some 22), .ld none (.t 21), none⟩,
  ⟨(some 23), .len (.t 22), none⟩,
  ⟨(some 24), .mv (.c (.int .i64 (0))), none⟩]
def d47_3 : Option (List (List Nat)) := none
def l47_3 : List Nat := []
theorem cd47_3 : dOk d47_3 g47_3 l47_3 = true := by kernel_rfl
def g47_4 : List G := [⟨(some 25), .bin .lss (.t 24) (.t 23), none⟩]
def d47_4 : Option (List (List Nat)) := none
def l47_4 : List Nat := []
theorem cd47_4 : dOk d47_4 g47_4 l47_4 = true := by kernel_rfl
def g47_5 : List G := [⟨(some 26), .mv (.t 24), none⟩,
  ⟨(some 27), .is 7 (.t 22) (.t 24), none⟩,
  ⟨(some 28), .ld (some 7) (.t 27), none⟩,
  ⟨(some 4), .alloc (.agg [.int .i64 (0), .agg [.int .i64 (0), .int .i64 (0), .int .i64 (0), .int .i64 (0), .int .i64 (0), .int .i64 (0)]]), none⟩,
  ⟨(some 3), .mv (.t 26), none⟩,
  ⟨none, .st (some 7) (.t 4) (.t 28), none⟩]
def d47_5 : Option (List (List Nat)) := none
def l47_5 : List Nat := []
theorem cd47_5 : dOk d47_5 g47_5 l47_5 = true := by kernel_rfl
def g47_6 : List G := [⟨(some 29), .fa 0 0 (.t 4), none⟩,
  ⟨(some 30), .ld none (.t 29), none⟩,
  ⟨(some 31), .call 97 [(.t 30)], none⟩,
  ⟨(some 32), .un .not (.t 31), none⟩,
  ⟨(some 33), .mv (.t 32), none⟩,
  ⟨(some 34), .fa 1 1 (.t 4), some (33, false)⟩,
  ⟨(some 35), .ld (some 6) (.t 34), some (33, false)⟩,
  ⟨(some 36), .call 93 [(.t 35)], some (33, false)⟩,
  ⟨(some 37), .un .not (.t 36), some (33, false)⟩,
  ⟨(some 38), .pick (.t 33) (.c (.bool true)) (.t 37), none⟩,
  ⟨(some 39), .mv (.t 38), none⟩,
  ⟨(some 40), .mv (.t 3), some (39, false)⟩,
  ⟨(some 41), .bin .gtr (.t 40) (.c (.int .i64 (0))), some (39, false)⟩,
  ⟨(some 42), .mv (.t 41), some (39, false)⟩,
  ⟨(some 43), .fa 2 6 (.t 1), some (42, true)⟩,
  ⟨(some 44), .ld none (.t 43), some (42, true)⟩,
  ⟨(some 45), .mv (.t 3), some (42, true)⟩,
  ⟨(some 46), .bin .sub (.t 45) (.c (.int .i64 (1))), some (42, true)⟩,
  ⟨(some 47), .is 7 (.t 44) (.t 46), some (42, true)⟩,
  ⟨(some 48), .fa 0 0 (.t 47), some (42, true)⟩,
  ⟨(some 49), .ld none (.t 48), some (42, true)⟩,
  ⟨(some 50), .fa 0 0 (.t 4), some (42, true)⟩,
  ⟨(some 51), .ld none (.t 50), some (42, true)⟩,
  ⟨(some 52), .bin .geq (.t 49) (.t 51), some (42, true)⟩,
  ⟨(some 53), .pick (.t 42) (.t 52) (.c (.bool false)), some (39, false)⟩,
  ⟨(some 54), .pick (.t 39) (.c (.bool true)) (.t 53), none⟩,
  ⟨(some 55), .mv (.t 54), none⟩,
  ⟨(some 56), .ld (some 7) (.t 1), some (55, false)⟩,
  ⟨(some 57), .fa 2 6 (.t 1), some (55, false)⟩,
  ⟨(some 58), .ld none (.t 57), some (55, false)⟩,
  ⟨(some 59), .mv (.t 3), some (55, false)⟩,
  ⟨(some 60), .sl 7 (.t 58) none (some (.t 59)) none, some (55, false)⟩,
  ⟨(some 61), .fa 1 1 (.t 4), some (55, false)⟩,
  ⟨(some 62), .ld (some 6) (.t 61), some (55, false)⟩,
  ⟨(some 63), .call 98 [(.t 56), (.t 60), (.t 62)], some (55, false)⟩,
  ⟨(some 64), .un .not (.t 63), some (55, false)⟩,
  ⟨(some 65), .pick (.t 55) (.c (.bool true)) (.t 64), none⟩]
def d47_6 : Option (List (List Nat)) := (some [[], [0], [1], [2], [3, 2], [4], [5, 4], [6, 4, 4], [7, 4], [4, 8], [9, 7], [10], [11, 10], [12, 10, 10], [13], [14, 13], [13], [16, 13], [15, 17, 13], [18, 13], [19, 13], [13], [21, 13], [20, 22, 13], [13, 23, 10], [10, 24], [25, 13], [26], [26], [28, 26], [26], [29, 30, 26], [26], [32, 26], [27, 31, 33, 26, 26], [34, 26], [26, 35]])
def l47_6 : List Nat := [0, 1, 3, 7, 15, 31, 63, 127, 255, 511, 1023, 2047, 4095, 8191, 16383, 32767, 16383, 81919, 262143, 524287, 1048575, 16383, 2113535, 8388607, 16777215, 33554431, 67108863, 134217727, 134217727, 402653183, 134217727, 2013265919, 134217727, 4429185023, 17179869183, 34359738367, 68719476735]
theorem cd47_6 : dOk d47_6 g47_6 l47_6 = true := by kernel_rfl
def g47_7 : List G := [⟨(some 2), .mv (.c (.int .i64 (13))), none⟩]
def d47_7 : Option (List (List Nat)) := none
def l47_7 : List Nat := []
theorem cd47_7 : dOk d47_7 g47_7 l47_7 = true := by kernel_rfl
def g47_8 : List G := [⟨(some 66), .bin .add (.t 24) (.c (.int .i64 (1))), none⟩,
  ⟨(some 24), .mv (.t 66), none⟩]
def d47_8 : Option (List (List Nat)) := none
def l47_8 : List Nat := []
theorem cd47_8 : dOk d47_8 g47_8 l47_8 = true := by kernel_rfl
def g47_9 : List G := [⟨(some 2), .mv (.c (.int .i64 (0))), none⟩]
def d47_9 : Option (List (List Nat)) := none
def l47_9 : List Nat := []
theorem cd47_9 : dOk d47_9 g47_9 l47_9 = true := by kernel_rfl
def c47 : AC := (.seq (.reg d47_0 g47_0) (.seq (.seq (.reg d47_1 g47_1) (.cond (.t 20) (.seq (.reg d47_2 g47_2) .ret) .skip)) (.seq (.seq (.reg d47_3 g47_3) (.block 0 (.loop (.seq (.reg d47_4 g47_4) (.seq (.cond (.t 25) .skip (.exit 0)) (.seq (.block 1 (.seq (.reg d47_5 g47_5) (.seq (.reg d47_6 g47_6) (.cond (.t 65) (.seq (.reg d47_7 g47_7) .ret) .skip)))) (.reg d47_8 g47_8))))))) (.seq (.reg d47_9 g47_9) .ret))))
def r47 : List RV := [.tmp 2]
theorem cc47 : (Try.f47.body.bind (cCode Try.prog Try.f47.ntmps)) = some c47 := by kernel_rfl
theorem cr47 : cRes Try.prog Try.f47.results.toList = some r47 := by kernel_rfl
theorem ca47 : callable Try.prog 47 = true := by kernel_rfl
def g55_0 : List G := [⟨(some 1), .box (.t 0), none⟩,
  ⟨(some 2), .alloc (.agg [.int .i64 (0), .int .i64 (0), .int .i64 (0), .int .i64 (0), .int .i64 (0), .int .i64 (0)]), none⟩,
  ⟨(some 3), .alloc (.int .i64 (0)), none⟩]
def d55_0 : Option (List (List Nat)) := none
def l55_0 : List Nat := []
theorem cd55_0 : dOk d55_0 g55_0 l55_0 = true := by kernel_rfl
def g55_1 : List G := [⟨(some 8), .ld (some 7) (.t 1), none⟩,
  ⟨(some 9), .call 47 [(.t 8)], none⟩,
  ⟨(some 4), .mv (.t 9), none⟩]
def d55_1 : Option (List (List Nat)) := none
def l55_1 : List Nat := []
theorem cd55_1 : dOk d55_1 g55_1 l55_1 = true := by kernel_rfl
def g55_2 : List G := [⟨(some 10), .mv (.t 4), none⟩,
  ⟨(some 11), .bin .neq (.t 10) (.c (.int .i64 (0))), none⟩]
def d55_2 : Option (List (List Nat)) := none
def l55_2 : List Nat := []
theorem cd55_2 : dOk d55_2 g55_2 l55_2 = true := by kernel_rfl
def g55_3 : List G := [⟨(some 12), .bld [.int .i64 (0), .int .i64 (0), .int .i64 (0), .int .i64 (0), .int .i64 (0), .int .i64 (0)] [], none⟩,
  ⟨(some 13), .mv (.t 4), none⟩,
  ⟨none, .st (some 6) (.t 2) (.t 12), none⟩,
  ⟨none, .st none (.t 3) (.t 13), none⟩]
def d55_3 : Option (List (List Nat)) := none
def l55_3 : List Nat := []
theorem cd55_3 : dOk d55_3 g55_3 l55_3 = true := by kernel_rfl
def g55_4 : List G := [⟨(some 14), .fa 2 6 (.t 1), none⟩,
  ⟨(some 15), .ld none (.t 14), none⟩,
  ⟨(some 16), .len (.t 15), none⟩,
  ⟨(some 17), .bin .eql (.t 16) (.c (.int .i64 (40))), none⟩]
def d55_4 : Option (List (List Nat)) := none
def l55_4 : List Nat := []
theorem cd55_4 : dOk d55_4 g55_4 l55_4 = true := by kernel_rfl
def g55_5 : List G := [⟨(some 18), .bld [.int .i64 (0), .int .i64 (0), .int .i64 (0), .int .i64 (0), .int .i64 (0), .int .i64 (0)] [], none⟩,
  ⟨none, .st (some 6) (.t 2) (.t 18), none⟩,
  ⟨none, .st none (.t 3) (.c (.int .i64 (16))), none⟩]
def d55_5 : Option (List (List Nat)) := none
def l55_5 : List Nat := []
theorem cd55_5 : dOk d55_5 g55_5 l55_5 = true := by kernel_rfl
def g55_6 : List G := [⟨(some 19), .call 101 [], none⟩]
def d55_6 : Option (List (List Nat)) := none
def l55_6 : List Nat := []
theorem cd55_6 : dOk d55_6 g55_6 l55_6 = true := by kernel_rfl
def g55_7 : List G := [⟨(some 5), .alloc (.agg [.int .i64 (0), .int .i64 (0), .int .i64 (0), .int .i64 (0), .int .i64 (0), .int .i64 (0)]), none⟩,
  ⟨none, .st (some 6) (.t 5) (.t 20), none⟩]
def d55_7 : Option (List (List Nat)) := none
def l55_7 : List Nat := []
theorem cd55_7 : dOk d55_7 g55_7 l55_7 = true := by kernel_rfl
def g55_8 : List G := [⟨(some 21), .fa 2 6 (.t 1), none⟩,
  ⟨(some 22), .ld none (.t 21), none⟩,
  ⟨(some 23), .len (.t 22), none⟩,
  ⟨(some 24), .mv (.c (.int .i64 (0))), none⟩]
def d55_8 : Option (List (List Nat)) := none
def l55_8 : List Nat := []
theorem cd55_8 : dOk d55_8 g55_8 l55_8 = true := by kernel_rfl
def g55_9 : List G := [⟨(some 25), .bin .lss (.t 24) (.t 23), none⟩]
def d55_9 : Option (List (List Nat)) := none
def l55_9 : List Nat := []
theorem cd55_9 : dOk d55_9 g55_9 l55_9 = true := by kernel_rfl
def g55_10 : List G := [⟨(some 26), .is 7 (.t 22) (.t 24), none⟩,
  ⟨(some 27), .ld (some 7) (.t 26), none⟩,
  ⟨(some 7), .alloc (.agg [.int .i64 (0), .agg [.int .i64 (0), .int .i64 (0), .int .i64 (0), .int .i64 (0), .int .i64 (0), .int .i64 (0)]]), none⟩,
  ⟨none, .st (some 7) (.t 7) (.t 27), none⟩]
def d55_10 : Option (List (List Nat)) := none
def l55_10 : List Nat := []
theorem cd55_10 : dOk d55_10 g55_10 l55_10 = true := by kernel_rfl
def g55_11 : List G := [⟨(some 28), .fa 0 0 (.t 1), none⟩,
  ⟨(some 29), .ld (some 5) (.t 28), none⟩,
  ⟨(some 30), .fa 1 1 (.t 7), none⟩,
  ⟨(some 31), .ld (some 6) (.t 30), none⟩,
  ⟨(some 32), .ld (some 6) (.t 5), none⟩,
  ⟨(some 33), .call 87 [(.t 29), (.t 31), (.t 32)], none⟩,
  ⟨(some 34), .fa 1 5 (.t 1), none⟩,
  ⟨(some 35), .ld none (.t 34), none⟩,
  ⟨(some 36), .bin .mul (.c (.int .i64 (2))) (.t 35), none⟩,
  ⟨(some 37), .bin .leq (.t 33) (.t 36), none⟩]
def d55_11 : Option (List (List Nat)) := (some [[], [0], [], [2], [], [1, 3, 4], [], [6], [7], [5, 8]])
def l55_11 : List Nat := [0, 1, 0, 4, 0, 31, 0, 64, 192, 511]
theorem cd55_11 : dOk d55_11 g55_11 l55_11 = true := by kernel_rfl
def g55_12 : List G := [⟨(some 38), .bin .add (.t 24) (.c (.int .i64 (1))), none⟩,
  ⟨(some 24), .mv (.t 38), none⟩]
def d55_12 : Option (List (List Nat)) := none
def l55_12 : List Nat := []
theorem cd55_12 : dOk d55_12 g55_12 l55_12 = true := by kernel_rfl
def g55_13 : List G := [⟨(some 39), .ld (some 6) (.t 5), none⟩,
  ⟨none, .st (some 6) (.t 2) (.t 39), none⟩,
  ⟨none, .st none (.t 3) (.c (.int .i64 (0))), none⟩]
def d55_13 : Option (List (List Nat)) := none
def l55_13 : List Nat := []
theorem cd55_13 : dOk d55_13 g55_13 l55_13 = true := by kernel_rfl
def g55_14 : List G := [⟨(some 40), .bld [.int .i64 (0), .int .i64 (0), .int .i64 (0), .int .i64 (0), .int .i64 (0), .int .i64 (0)] [], none⟩,
  ⟨none, .st (some 6) (.t 2) (.t 40), none⟩,
  ⟨none, .st none (.t 3) (.c (.int .i64 (16))), none⟩]
def d55_14 : Option (List (List Nat)) := none
def l55_14 : List Nat := []
theorem cd55_14 : dOk d55_14 g55_14 l55_14 = true := by kernel_rfl
def c55 : AC := (.seq (.reg d55_0 g55_0) (.scope (.seq (.seq (.reg d55_1 g55_1) (.seq (.reg d55_2 g55_2) (.cond (.t 11) (.seq (.reg d55_3 g55_3) .ret) .skip))) (.seq (.seq (.reg d55_4 g55_4) (.cond (.t 17) (.seq (.reg d55_5 g55_5) .ret) .skip)) (.seq .label (.seq (.seq (.reg d55_6 g55_6) (.block 0 (.rfun (.t 19) [20] (.reg d55_7 g55_7) (.block 1 (.seq (.seq (.reg d55_8 g55_8) (.block 2 (.loop (.seq (.reg d55_9 g55_9) (.seq (.cond (.t 25) .skip (.exit 2)) (.seq (.block 3 (.seq (.reg d55_10 g55_10) (.seq (.reg d55_11 g55_11) (.cond (.t 37) (.exit 1) .skip)))) (.reg d55_12 g55_12))))))) (.seq (.reg d55_13 g55_13) .ret)))))) (.seq (.reg d55_14 g55_14) .ret)))))))
def r55 : List RV := [.cell 2 (some 6), .cell 3 none]
theorem cc55 : (Try.f55.body.bind (cCode Try.prog Try.f55.ntmps)) = some c55 := by kernel_rfl
theorem cr55 : cRes Try.prog Try.f55.results.toList = some r55 := by kernel_rfl
theorem ca55 : callable Try.prog 55 = true := by kernel_rfl
def g57_0 : List G := [⟨(some 2), .box (.t 0), none⟩,
  ⟨(some 4), .alloc (.agg [.agg [.int .i64 (0), .int .i64 (0), .int .i64 (0), .int .i64 (0), .int .i64 (0)], .int .i64 (0), .nils 7]), none⟩,
  ⟨(some 5), .mv (.c (.int .i64 (0))), none⟩]
def d57_0 : Option (List (List Nat)) := none
def l57_0 : List Nat := []
theorem cd57_0 : dOk d57_0 g57_0 l57_0 = true := by kernel_rfl
def g57_1 : List G := [⟨(some 11), .ld (some 7) (.t 2), none⟩,
  ⟨(some 12), .mv (.t 1), none⟩,
  ⟨(some 13), .call 90 [(.t 11), (.t 12)], none⟩,
  ⟨(some 6), .mv (.t 13), none⟩]
def d57_1 : Option (List (List Nat)) := none
def l57_1 : List Nat := []
theorem cd57_1 : dOk d57_1 g57_1 l57_1 = true := by kernel_rfl
def g57_2 : List G := [⟨(some 14), .mv (.t 6), none⟩,
  ⟨(some 15), .bin .neq (.t 14) (.c (.int .i64 (0))), none⟩]
def d57_2 : Option (List (List Nat)) := none
def l57_2 : List Nat := []
theorem cd57_2 : dOk d57_2 g57_2 l57_2 = true := by kernel_rfl
def g57_3 : List G := [⟨(some 16), .bld [.agg [.int .i64 (0), .int .i64 (0), .int .i64 (0), .int .i64 (0), .int .i64 (0)], .int .i64 (0), .nils 7] [], none⟩,
  ⟨(some 17), .mv (.t 6), none⟩,
  ⟨none, .st (some 7) (.t 4) (.t 16), none⟩,
  ⟨(some 5), .mv (.t 17), none⟩]
def d57_3 : Option (List (List Nat)) := none
def l57_3 : List Nat := []
theorem cd57_3 : dOk d57_3 g57_3 l57_3 = true := by kernel_rfl
def g57_4 : List G := [⟨(some 19), .ld (some 7) (.t 2), none⟩,
  ⟨(some 20), .mv (.t 1), none⟩,
  ⟨(some 21), .call 91 [(.t 19), (.t 20)], none⟩,
  ⟨(some 18), .mv (.t 21), none⟩,
  ⟨(some 22), .ext (.t 18) 0, none⟩,
  ⟨(some 23), .ext (.t 18) 1, none⟩,
  ⟨(some 7), .mv (.t 22), none⟩,
  ⟨(some 8), .mv (.t 23), none⟩]
def d57_4 : Option (List (List Nat)) := none
def l57_4 : List Nat := []
theorem cd57_4 : dOk d57_4 g57_4 l57_4 = true := by kernel_rfl
def g57_5 : List G := [⟨(some 24), .mv (.t 8), none⟩]
def d57_5 : Option (List (List Nat)) := none
def l57_5 : List Nat := []
theorem cd57_5 : dOk d57_5 g57_5 l57_5 = true := by kernel_rfl
def g57_6 : List G := [⟨(some 25), .bld [.agg [.int .i64 (0), .int .i64 (0), .int .i64 (0), .int .i64 (0), .int .i64 (0)], .int .i64 (0), .nils 7] [], none⟩,
  ⟨none, .st (some 7) (.t 4) (.t 25), none⟩,
  ⟨(some 5), .mv (.c (.int .i64 (15))), none⟩]
def d57_6 : Option (List (List Nat)) := none
def l57_6 : List Nat := []
theorem cd57_6 : dOk d57_6 g57_6 l57_6 = true := by kernel_rfl
def g57_7 : List G := [⟨(some 27), .ld (some 7) (.t 2), none⟩,
  ⟨(some 28), .call 55 [(.t 27)], none⟩,
  ⟨(some 26), .mv (.t 28), none⟩,
  ⟨(some 29), .ext (.t 26) 0, none⟩,
  ⟨(some 30), .ext (.t 26) 1, none⟩,
  ⟨(some 9), .alloc (.agg [.int .i64 (0), .int .i64 (0), .int .i64 (0), .int .i64 (0), .int .i64 (0), .int .i64 (0)]), none⟩,
  ⟨none, .st (some 6) (.t 9) (.t 29), none⟩,
  ⟨(some 10), .mv (.t 30), none⟩]
def d57_7 : Option (List (List Nat)) := none
def l57_7 : List Nat := []
theorem cd57_7 : dOk d57_7 g57_7 l57_7 = true := by kernel_rfl
def g57_8 : List G := [⟨(some 31), .mv (.t 10), none⟩,
  ⟨(some 32), .bin .neq (.t 31) (.c (.int .i64 (0))), none⟩]
def d57_8 : Option (List (List Nat)) := none
def l57_8 : List Nat := []
theorem cd57_8 : dOk d57_8 g57_8 l57_8 = true := by kernel_rfl
def g57_9 : List G := [⟨(some 33), .bld [.agg [.int .i64 (0), .int .i64 (0), .int .i64 (0), .int .i64 (0), .int .i64 (0)], .int .i64 (0), .nils 7] [], none⟩,
  ⟨(some 34), .mv (.t 10), none⟩,
  ⟨none, .st (some 7) (.t 4) (.t 33), none⟩,
  ⟨(some 5), .mv (.t 34), none⟩]
def d57_9 : Option (List (List Nat)) := none
def l57_9 : List Nat := []
theorem cd57_9 : dOk d57_9 g57_9 l57_9 = true := by kernel_rfl
def g57_10 : List G := [⟨(some 35), .ld (some 7) (.t 2), none⟩,
  ⟨(some 36), .mv (.t 1), none⟩,
  ⟨(some 37), .ld (some 6) (.t 9), none⟩,
  ⟨(some 38), .bld [.int .i64 (0), .agg [.int .i64 (0), .int .i64 (0), .int .i64 (0), .int .i64 (0), .int .i64 (0), .int .i64 (0)]] [(0, (.t 36)), (1, (.t 37))], none⟩,
  ⟨(some 39), .call 102 [(.t 35), (.t 38)], none⟩,
  ⟨none, .st (some 7) (.t 4) (.t 39), none⟩,
  ⟨(some 5), .mv (.c (.int .i64 (0))), none⟩]
def d57_10 : Option (List (List Nat)) := none
def l57_10 : List Nat := []
theorem cd57_10 : dOk d57_10 g57_10 l57_10 = true := by kernel_rfl
def c57 : AC := (.seq (.reg d57_0 g57_0) (.seq (.seq (.reg d57_1 g57_1) (.seq (.reg d57_2 g57_2) (.cond (.t 15) (.seq (.reg d57_3 g57_3) .ret) .skip))) (.seq (.seq (.reg d57_4 g57_4) (.seq (.reg d57_5 g57_5) (.cond (.t 24) (.seq (.reg d57_6 g57_6) .ret) .skip))) (.seq (.reg d57_7 g57_7) (.seq (.seq (.reg d57_8 g57_8) (.cond (.t 32) (.seq (.reg d57_9 g57_9) .ret) .skip)) (.seq (.reg d57_10 g57_10) .ret))))))
def r57 : List RV := [.cell 4 (some 7), .tmp 5]
theorem cc57 : (Try.f57.body.bind (cCode Try.prog Try.f57.ntmps)) = some c57 := by kernel_rfl
theorem cr57 : cRes Try.prog Try.f57.results.toList = some r57 := by kernel_rfl
theorem ca57 : callable Try.prog 57 = true := by kernel_rfl
def g59_0 : List G := [⟨(some 2), .box (.t 0), none⟩,
  ⟨(some 3), .box (.t 1), none⟩,
  ⟨(some 4), .alloc (.agg [.agg [.int .i64 (0), .int .i64 (0), .int .i64 (0), .int .i64 (0), .int .i64 (0)], .int .i64 (0), .nils 7]), none⟩,
  ⟨(some 5), .mv (.c (.int .i64 (0))), none⟩]
def d59_0 : Option (List (List Nat)) := none
def l59_0 : List Nat := []
theorem cd59_0 : dOk d59_0 g59_0 l59_0 = true := by kernel_rfl
def g59_1 : List G := [⟨(some 9), .ld (some 7) (.t 2), none⟩,
  ⟨(some 10), .fa 0 0 (.t 3), none⟩,
  ⟨(some 11), .ld none (.t 10), none⟩,
  ⟨(some 12), .call 90 [(.t 9), (.t 11)], none⟩,
  ⟨(some 6), .mv (.t 12), none⟩]
def d59_1 : Option (List (List Nat)) := none
def l59_1 : List Nat := []
theorem cd59_1 : dOk d59_1 g59_1 l59_1 = true := by kernel_rfl
def g59_2 : List G := [⟨(some 13), .mv (.t 6), none⟩,
  ⟨(some 14), .bin .neq (.t 13) (.c (.int .i64 (0))), none⟩]
def d59_2 : Option (List (List Nat)) := none
def l59_2 : List Nat := []
theorem cd59_2 : dOk d59_2 g59_2 l59_2 = true := by kernel_rfl
def g59_3 : List G := [⟨(some 15), .bld [.agg [.int .i64 (0), .int .i64 (0), .int .i64 (0), .int .i64 (0), .int .i64 (0)], .int .i64 (0), .nils 7] [], none⟩,
  ⟨(some 16), .mv (.t 6), none⟩,
  ⟨none, .st (some 7) (.t 4) (.t 15), none⟩,
  ⟨(some 5), .mv (.t 16), none⟩]
def d59_3 : Option (List (List Nat)) := none
def l59_3 : List Nat := []
theorem cd59_3 : dOk d59_3 g59_3 l59_3 = true := by kernel_rfl
def g59_4 : List G := [⟨(some 18), .ld (some 7) (.t 2), none⟩,
  ⟨(some 19), .fa 0 0 (.t 3), none⟩,
  ⟨(some 20), .ld none (.t 19), none⟩,
  ⟨(some 21), .call 91 [(.t 18), (.t 20)], none⟩,
  ⟨(some 17), .mv (.t 21), none⟩,
  ⟨(some 22), .ext (.t 17) 0, none⟩,
  ⟨(some 23), .ext (.t 17) 1, none⟩,
  ⟨(some 7), .mv (.t 22), none⟩,
  ⟨(some 8), .mv (.t 23), none⟩]
def d59_4 : Option (List (List Nat)) := none
def l59_4 : List Nat := []
theorem cd59_4 : dOk d59_4 g59_4 l59_4 = true := by kernel_rfl
def g59_5 : List G := [⟨(some 25), .mv (.t 8), none⟩,
  ⟨(some 24), .mv (.t 25), none⟩]
def d59_5 : Option (List (List Nat)) := none
def l59_5 : List Nat := []
theorem cd59_5 : dOk d59_5 g59_5 l59_5 = true := by kernel_rfl
def g59_6 : List G := [⟨(some 26), .bld [.agg [.int .i64 (0), .int .i64 (0), .int .i64 (0), .int .i64 (0), .int .i64 (0)], .int .i64 (0), .nils 7] [], none⟩,
  ⟨none, .st (some 7) (.t 4) (.t 26), none⟩,
  ⟨(some 5), .mv (.c (.int .i64 (15))), none⟩]
def d59_6 : Option (List (List Nat)) := none
def l59_6 : List Nat := []
theorem cd59_6 : dOk d59_6 g59_6 l59_6 = true := by kernel_rfl
def g59_7 : List G := [⟨(some 28), .fa 1 1 (.t 3), none⟩,
  ⟨(some 29), .ld (some 6) (.t 28), none⟩,
  ⟨(some 30), .call 93 [(.t 29)], none⟩,
  ⟨(some 31), .un .not (.t 30), none⟩,
  ⟨(some 27), .mv (.t 31), none⟩]
def d59_7 : Option (List (List Nat)) := none
def l59_7 : List Nat := []
theorem cd59_7 : dOk d59_7 g59_7 l59_7 = true := by kernel_rfl
def g59_8 : List G := [⟨(some 32), .bld [.agg [.int .i64 (0), .int .i64 (0), .int .i64 (0), .int .i64 (0), .int .i64 (0)], .int .i64 (0), .nils 7] [], none⟩,
  ⟨none, .st (some 7) (.t 4) (.t 32), none⟩,
  ⟨(some 5), .mv (.c (.int .i64 (10))), none⟩]
def d59_8 : Option (List (List Nat)) := none
def l59_8 : List Nat := []
theorem cd59_8 : dOk d59_8 g59_8 l59_8 = true := by kernel_rfl
def g59_9 : List G := [⟨(some 34), .fa 2 6 (.t 2), none⟩,
  ⟨(some 35), .ld none (.t 34), none⟩,
  ⟨(some 36), .len (.t 35), none⟩,
  ⟨(some 37), .bin .eql (.t 36) (.c (.int .i64 (40))), none⟩,
  ⟨(some 33), .mv (.t 37), none⟩]
def d59_9 : Option (List (List Nat)) := none
def l59_9 : List Nat := []
theorem cd59_9 : dOk d59_9 g59_9 l59_9 = true := by kernel_rfl
def g59_10 : List G := [⟨(some 38), .bld [.agg [.int .i64 (0), .int .i64 (0), .int .i64 (0), .int .i64 (0), .int .i64 (0)], .int .i64 (0), .nils 7] [], none⟩,
  ⟨none, .st (some 7) (.t 4) (.t 38), none⟩,
  ⟨(some 5), .mv (.c (.int .i64 (16))), none⟩]
def d59_10 : Option (List (List Nat)) := none
def l59_10 : List Nat := []
theorem cd59_10 : dOk d59_10 g59_10 l59_10 = true := by kernel_rfl
def g59_11 : List G := [⟨(some 40), .ld (some 7) (.t 2), none⟩,
  ⟨(some 41), .fa 2 6 (.t 2), none⟩,
  ⟨(some 42), .ld none (.t 41), none⟩,
  ⟨(some 43), .fa 1 1 (.t 3), none⟩,
  ⟨(some 44), .ld (some 6) (.t 43), none⟩,
  ⟨(some 45), .call 98 [(.t 40), (.t 42), (.t 44)], none⟩,
  ⟨(some 46), .un .not (.t 45), none⟩,
  ⟨(some 39), .mv (.t 46), none⟩]
def d59_11 : Option (List (List Nat)) := none
def l59_11 : List Nat := []
theorem cd59_11 : dOk d59_11 g59_11 l59_11 = true := by kernel_rfl
def g59_12 : List G := [⟨(some 47), .bld [.agg [.int .i64 (0), .int .i64 (0), .int .i64 (0), .int .i64 (0), .int .i64 (0)], .int .i64 (0), .nils 7] [], none⟩,
  ⟨none, .st (some 7) (.t 4) (.t 47), none⟩,
  ⟨(some 5), .mv (.c (.int .i64 (19))), none⟩]
def d59_12 : Option (List (List Nat)) := none
def l59_12 : List Nat := []
theorem cd59_12 : dOk d59_12 g59_12 l59_12 = true := by kernel_rfl
def g59_13 : List G := [⟨(some 48), .ld (some 7) (.t 2), none⟩,
  ⟨(some 49), .ld (some 7) (.t 3), none⟩,
  ⟨(some 50), .call 102 [(.t 48), (.t 49)], none⟩,
  ⟨none, .st (some 7) (.t 4) (.t 50), none⟩,
  ⟨(some 5), .mv (.c (.int .i64 (0))), none⟩]
def d59_13 : Option (List (List Nat)) := none
def l59_13 : List Nat := []
theorem cd59_13 : dOk d59_13 g59_13 l59_13 = true := by kernel_rfl
def c59 : AC := (.seq (.reg d59_0 g59_0) (.seq (.seq (.reg d59_1 g59_1) (.seq (.reg d59_2 g59_2) (.cond (.t 14) (.seq (.reg d59_3 g59_3) .ret) .skip))) (.seq (.reg d59_4 g59_4) (.seq (.block 0 (.seq (.reg d59_5 g59_5) (.cond (.t 24) (.seq (.reg d59_6 g59_6) .ret) (.seq (.reg d59_7 g59_7) (.cond (.t 27) (.seq (.reg d59_8 g59_8) .ret) (.seq (.reg d59_9 g59_9) (.cond (.t 33) (.seq (.reg d59_10 g59_10) .ret) (.seq (.reg d59_11 g59_11) (.cond (.t 39) (.seq (.reg d59_12 g59_12) .ret) .skip))))))))) (.seq (.reg d59_13 g59_13) .ret)))))
def r59 : List RV := [.cell 4 (some 7), .tmp 5]
theorem cc59 : (Try.f59.body.bind (cCode Try.prog Try.f59.ntmps)) = some c59 := by kernel_rfl
theorem cr59 : cRes Try.prog Try.f59.results.toList = some r59 := by kernel_rfl
theorem ca59 : callable Try.prog 59 = true := by kernel_rfl
def g61_0 : List G := [⟨(some 2), .box (.t 0), none⟩,
  ⟨(some 4), .alloc (.agg [.agg [.int .i64 (0), .int .i64 (0), .int .i64 (0), .int .i64 (0), .int .i64 (0)], .int .i64 (0), .nils 7]), none⟩,
  ⟨(some 5), .mv (.c (.int .i64 (0))), none⟩]
def d61_0 : Option (List (List Nat)) := none
def l61_0 : List Nat := []
theorem cd61_0 : dOk d61_0 g61_0 l61_0 = true := by kernel_rfl
def g61_1 : List G := [⟨(some 9), .ld (some 7) (.t 2), none⟩,
  ⟨(some 10), .mv (.t 1), none⟩,
  ⟨(some 11), .call 90 [(.t 9), (.t 10)], none⟩,
  ⟨(some 6), .mv (.t 11), none⟩]
def d61_1 : Option (List (List Nat)) := none
def l61_1 : List Nat := []
theorem cd61_1 : dOk d61_1 g61_1 l61_1 = true := by kernel_rfl
def g61_2 : List G := [⟨(some 12), .mv (.t 6), none⟩,
  ⟨(some 13), .bin .neq (.t 12) (.c (.int .i64 (0))), none⟩]
def d61_2 : Option (List (List Nat)) := none
def l61_2 : List Nat := []
theorem cd61_2 : dOk d61_2 g61_2 l61_2 = true := by kernel_rfl
def g61_3 : List G := [⟨(some 14), .bld [.agg [.int .i64 (0), .int .i64 (0), .int .i64 (0), .int .i64 (0), .int .i64 (0)], .int .i64 (0), .nils 7] [], none⟩,
  ⟨(some 15), .mv (.t 6), none⟩,
  ⟨none, .st (some 7) (.t 4) (.t 14), none⟩,
  ⟨(some 5), .mv (.t 15), none⟩]
def d61_3 : Option (List (List Nat)) := none
def l61_3 : List Nat := []
theorem cd61_3 : dOk d61_3 g61_3 l61_3 = true := by kernel_rfl
def g61_4 : List G := [⟨(some 17), .ld (some 7) (.t 2), none⟩,
  ⟨(some 18), .mv (.t 1), none⟩,
  ⟨(some 19), .call 91 [(.t 17), (.t 18)], none⟩,
  ⟨(some 16), .mv (.t 19), none⟩,
  ⟨(some 20), .ext (.t 16) 0, none⟩,
  ⟨(some 21), .ext (.t 16) 1, none⟩,
  ⟨(some 7), .mv (.t 20), none⟩,
  ⟨(some 8), .mv (.t 21), none⟩]
def d61_4 : Option (List (List Nat)) := none
def l61_4 : List Nat := []
theorem cd61_4 : dOk d61_4 g61_4 l61_4 = true := by kernel_rfl
def g61_5 : List G := [⟨(some 22), .mv (.t 8), none⟩,
  ⟨(some 23), .un .not (.t 22), none⟩]
def d61_5 : Option (List (List Nat)) := none
def l61_5 : List Nat := []
theorem cd61_5 : dOk d61_5 g61_5 l61_5 = true := by kernel_rfl
def g61_6 : List G := [⟨(some 24), .bld [.agg [.int .i64 (0), .int .i64 (0), .int .i64 (0), .int .i64 (0), .int .i64 (0)], .int .i64 (0), .nils 7] [], none⟩,
  ⟨none, .st (some 7) (.t 4) (.t 24), none⟩,
  ⟨(some 5), .mv (.c (.int .i64 (3))), none⟩]
def d61_6 : Option (List (List Nat)) := none
def l61_6 : List Nat := []
theorem cd61_6 : dOk d61_6 g61_6 l61_6 = true := by kernel_rfl
def g61_7 : List G := [⟨(some 25), .fa 2 6 (.t 2), none⟩,
  ⟨(some 26), .ld none (.t 25), none⟩,
  ⟨(some 27), .call 85 [(.t 26)], none⟩,
  ⟨(some 28), .mv (.t 7), none⟩,
  ⟨(some 29), .mv (.t 7), none⟩,
  ⟨(some 30), .bin .add (.t 29) (.c (.int .i64 (1))), none⟩,
  ⟨(some 31), .call 104 [(.t 27), (.t 28), (.t 30)], none⟩,
  ⟨(some 32), .fa 2 6 (.t 2), none⟩,
  ⟨none, .st none (.t 32) (.t 31), none⟩]
def d61_7 : Option (List (List Nat)) := none
def l61_7 : List Nat := []
theorem cd61_7 : dOk d61_7 g61_7 l61_7 = true := by kernel_rfl
def g61_8 : List G := [⟨(some 33), .ld (some 7) (.t 2), none⟩,
  ⟨none, .st (some 7) (.t 4) (.t 33), none⟩,
  ⟨(some 5), .mv (.c (.int .i64 (0))), none⟩]
def d61_8 : Option (List (List Nat)) := none
def l61_8 : List Nat := []
theorem cd61_8 : dOk d61_8 g61_8 l61_8 = true := by kernel_rfl
def c61 : AC := (.seq (.reg d61_0 g61_0) (.seq (.seq (.reg d61_1 g61_1) (.seq (.reg d61_2 g61_2) (.cond (.t 13) (.seq (.reg d61_3 g61_3) .ret) .skip))) (.seq (.reg d61_4 g61_4) (.seq (.seq (.reg d61_5 g61_5) (.cond (.t 23) (.seq (.reg d61_6 g61_6) .ret) .skip)) (.seq (.reg d61_7 g61_7) (.seq (.reg d61_8 g61_8) .ret))))))
def r61 : List RV := [.cell 4 (some 7), .tmp 5]
theorem cc61 : (Try.f61.body.bind (cCode Try.prog Try.f61.ntmps)) = some c61 := by kernel_rfl
theorem cr61 : cRes Try.prog Try.f61.results.toList = some r61 := by kernel_rfl
theorem ca61 : callable Try.prog 61 = true := by kernel_rfl
def g63_0 : List G := [⟨(some 2), .box (.t 0), none⟩,
  ⟨(some 3), .box (.t 1), none⟩,
  ⟨(some 4), .mv (.c (.bool false)), none⟩]
def d63_0 : Option (List (List Nat)) := none
def l63_0 : List Nat := []
theorem cd63_0 : dOk d63_0 g63_0 l63_0 = true := by kernel_rfl
def g63_1 : List G := [⟨(some 6), .fa 0 0 (.t 2), none⟩,
  ⟨(some 7), .ld (some 5) (.t 6), none⟩,
  ⟨(some 8), .fa 0 0 (.t 3), none⟩,
  ⟨(some 9), .ld (some 5) (.t 8), none⟩,
  ⟨(some 10), .eqv (.ar 5 (.i .i64)) true (.t 7) (.t 9), none⟩,
  ⟨(some 11), .mv (.t 10), none⟩,
  ⟨(some 12), .fa 1 5 (.t 2), some (11, false)⟩,
  ⟨(some 13), .ld none (.t 12), some (11, false)⟩,
  ⟨(some 14), .fa 1 5 (.t 3), some (11, false)⟩,
  ⟨(some 15), .ld none (.t 14), some (11, false)⟩,
  ⟨(some 16), .bin .neq (.t 13) (.t 15), some (11, false)⟩,
  ⟨(some 17), .pick (.t 11) (.c (.bool true)) (.t 16), none⟩,
  ⟨(some 18), .mv (.t 17), none⟩,
  ⟨(some 19), .fa 2 6 (.t 2), some (18, false)⟩,
  ⟨(some 20), .ld none (.t 19), some (18, false)⟩,
  ⟨(some 21), .len (.t 20), some (18, false)⟩,
  ⟨(some 22), .fa 2 6 (.t 3), some (18, false)⟩,
  ⟨(some 23), .ld none (.t 22), some (18, false)⟩,
  ⟨(some 24), .len (.t 23), some (18, false)⟩,
  ⟨(some 25), .bin .neq (.t 21) (.t 24), some (18, false)⟩,
  ⟨(some 26), .pick (.t 18) (.c (.bool true)) (.t 25), none⟩]
def d63_1 : Option (List (List Nat)) := none
def l63_1 : List Nat := []
theorem cd63_1 : dOk d63_1 g63_1 l63_1 = true := by kernel_rfl
def g63_2 : List G := [⟨(some 4), .mv (.c (.bool false)), none⟩]
def d63_2 : Option (List (List Nat)) := none
def l63_2 : List Nat := []
theorem cd63_2 : dOk d63_2 g63_2 l63_2 = true := by kernel_rfl
def g63_3 : List G := [⟨(some 5), .mv (.c (.int .i64 (0))), none⟩]
def d63_3 : Option (List (List Nat)) := none
def l63_3 : List Nat := []
theorem cd63_3 : dOk d63_3 g63_3 l63_3 = true := by kernel_rfl
def g63_4 : List G := [⟨(some 27), .mv (.t 5), none⟩,
  ⟨(some 28), .fa 2 6 (.t 2), none⟩,
  ⟨(some 29), .ld none (.t 28), none⟩,
  ⟨(some 30), .len (.t 29), none⟩,
  ⟨(some 31), .bin .lss (.t 27) (.t 30), none⟩]
def d63_4 : Option (List (List Nat)) := none
def l63_4 : List Nat := []
theorem cd63_4 : dOk d63_4 g63_4 l63_4 = true := by kernel_rfl
def g63_5 : List G := [⟨(some 34), .fa 2 6 (.t 2), none⟩,
  ⟨(some 35), .ld none (.t 34), none⟩,
  ⟨(some 36), .mv (.t 5), none⟩,
  ⟨(some 37), .is 7 (.t 35) (.t 36), none⟩,
  ⟨(some 38), .ld (some 7) (.t 37), none⟩,
  ⟨(some 39), .fa 2 6 (.t 3), none⟩,
  ⟨(some 40), .ld none (.t 39), none⟩,
  ⟨(some 41), .mv (.t 5), none⟩,
  ⟨(some 42), .is 7 (.t 40) (.t 41), none⟩,
  ⟨(some 43), .ld (some 7) (.t 42), none⟩,
  ⟨(some 44), .eqv (.st [(.i .i64), (.ar 6 (.i .i64))]) true (.t 38) (.t 43), none⟩]
def d63_5 : Option (List (List Nat)) := (some [[], [0], [], [1, 2], [3], [], [5], [], [6, 7], [8], [4, 9]])
def l63_5 : List Nat := [0, 1, 0, 7, 15, 0, 32, 0, 224, 480, 1023]
theorem cd63_5 : dOk d63_5 g63_5 l63_5 = true := by kernel_rfl
def g63_6 : List G := [⟨(some 4), .mv (.c (.bool false)), none⟩]
def d63_6 : Option (List (List Nat)) := none
def l63_6 : List Nat := []
theorem cd63_6 : dOk d63_6 g63_6 l63_6 = true := by kernel_rfl
def g63_7 : List G := [⟨(some 32), .mv (.t 5), none⟩,
  ⟨(some 33), .bin .add (.t 32) (.c (.int .i64 (1))), none⟩,
  ⟨(some 5), .mv (.t 33), none⟩]
def d63_7 : Option (List (List Nat)) := none
def l63_7 : List Nat := []
theorem cd63_7 : dOk d63_7 g63_7 l63_7 = true := by kernel_rfl
def g63_8 : List G := [⟨(some 4), .mv (.c (.bool true)), none⟩]
def d63_8 : Option (List (List Nat)) := none
def l63_8 : List Nat := []
theorem cd63_8 : dOk d63_8 g63_8 l63_8 = true := by kernel_rfl
def c63 : AC := (.seq (.reg d63_0 g63_0) (.seq (.seq (.reg d63_1 g63_1) (.cond (.t 26) (.seq (.reg d63_2 g63_2) .ret) .skip)) (.seq (.seq (.reg d63_3 g63_3) (.block 0 (.loop (.seq (.seq (.reg d63_4 g63_4) (.cond (.t 31) .skip (.exit 0))) (.seq (.block 1 (.seq (.reg d63_5 g63_5) (.cond (.t 44) (.seq (.reg d63_6 g63_6) .ret) .skip))) (.reg d63_7 g63_7)))))) (.seq (.reg d63_8 g63_8) .ret))))
def r63 : List RV := [.tmp 4]
theorem cc63 : (Try.f63.body.bind (cCode Try.prog Try.f63.ntmps)) = some c63 := by kernel_rfl
theorem cr63 : cRes Try.prog Try.f63.results.toList = some r63 := by kernel_rfl
theorem ca63 : callable Try.prog 63 = true := by kernel_rfl
def g64_0 : List G := [⟨(some 2), .mv (.c (.int .i64 (0))), none⟩]
def d64_0 : Option (List (List Nat)) := none
def l64_0 : List Nat := []
theorem cd64_0 : dOk d64_0 g64_0 l64_0 = true := by kernel_rfl
def g64_1 : List G := [⟨(some 5), .mv (.t 0), none⟩,
  ⟨(some 6), .len (.t 5), none⟩,
  ⟨(some 7), .mv (.c (.int .i64 (0))), none⟩]
def d64_1 : Option (List (List Nat)) := none
def l64_1 : List Nat := []
theorem cd64_1 : dOk d64_1 g64_1 l64_1 = true := by kernel_rfl
def g64_2 : List G := [⟨(some 8), .bin .lss (.t 7) (.t 6), none⟩]
def d64_2 : Option (List (List Nat)) := none
def l64_2 : List Nat := []
theorem cd64_2 : dOk d64_2 g64_2 l64_2 = true := by kernel_rfl
def g64_3 : List G := [⟨(some 9), .is 1 (.t 5) (.t 7), none⟩,
  ⟨(some 10), .ld none (.t 9), none⟩,
  ⟨(some 4), .mv (.t 10), none⟩]
def d64_3 : Option (List (List Nat)) := none
def l64_3 : List Nat := []
theorem cd64_3 : dOk d64_3 g64_3 l64_3 = true := by kernel_rfl
def g64_4 : List G := [⟨(some 11), .mv (.t 4), none⟩,
  ⟨(some 12), .bin .neq (.t 11) (.c (.int .i64 (0))), none⟩]
def d64_4 : Option (List (List Nat)) := none
def l64_4 : List Nat := []
theorem cd64_4 : dOk d64_4 g64_4 l64_4 = true := by kernel_rfl
def g64_5 : List G := [⟨(some 13), .mv (.t 4), none⟩,
  ⟨(some 2), .mv (.t 13), none⟩]
def d64_5 : Option (List (List Nat)) := none
def l64_5 : List Nat := []
theorem cd64_5 : dOk d64_5 g64_5 l64_5 = true := by kernel_rfl
def g64_6 : List G := [⟨(some 14), .bin .add (.t 7) (.c (.int .i64 (1))), none⟩,
  ⟨(some 7), .mv (.t 14), none⟩]
def d64_6 : Option (List (List Nat)) := none
def l64_6 : List Nat := []
theorem cd64_6 : dOk d64_6 g64_6 l64_6 = true := by kernel_rfl
def g64_7 : List G := [⟨(some 2), .mv (.c (.int .i64 (0))), none⟩]
def d64_7 : Option (List (List Nat)) := none
def l64_7 : List Nat := []
theorem cd64_7 : dOk d64_7 g64_7 l64_7 = true := by kernel_rfl
def c64 : AC := (.seq (.reg d64_0 g64_0) (.seq (.seq (.reg d64_1 g64_1) (.block 0 (.loop (.seq (.reg d64_2 g64_2) (.seq (.cond (.t 8) .skip (.exit 0)) (.seq (.block 1 (.seq (.reg d64_3 g64_3) (.seq (.reg d64_4 g64_4) (.cond (.t 12) (.seq (.reg d64_5 g64_5) .ret) .skip)))) (.reg d64_6 g64_6))))))) (.seq (.reg d64_7 g64_7) .ret)))
def r64 : List RV := [.tmp 2]
theorem cc64 : (Try.f64.body.bind (cCode Try.prog Try.f64.ntmps)) = some c64 := by kernel_rfl
theorem cr64 : cRes Try.prog Try.f64.results.toList = some r64 := by kernel_rfl
theorem ca64 : callable Try.prog 64 = true := by kernel_rfl
def g65_0 : List G := [⟨(some 2), .box (.t 0), none⟩,
  ⟨(some 3), .box (.t 1), none⟩,
  ⟨(some 4), .mv (.c (.nils 7)), none⟩]
def d65_0 : Option (List (List Nat)) := none
def l65_0 : List Nat := []
theorem cd65_0 : dOk d65_0 g65_0 l65_0 = true := by kernel_rfl
def g65_1 : List G := [⟨(some 5), .fa 2 6 (.t 2), none⟩,
  ⟨(some 6), .ld none (.t 5), none⟩,
  ⟨(some 7), .call 85 [(.t 6)], none⟩,
  ⟨(some 8), .mk 105 [(.t 2), (.t 3)], none⟩,
  ⟨(some 9), .call 73 [(.t 7), (.t 8)], none⟩,
  ⟨(some 4), .mv (.t 9), none⟩]
def d65_1 : Option (List (List Nat)) := none
def l65_1 : List Nat := []
theorem cd65_1 : dOk d65_1 g65_1 l65_1 = true := by kernel_rfl
def c65 : AC := (.seq (.reg d65_0 g65_0) (.seq (.reg d65_1 g65_1) .ret))
def r65 : List RV := [.tmp 4]
theorem cc65 : (Try.f65.body.bind (cCode Try.prog Try.f65.ntmps)) = some c65 := by kernel_rfl
theorem cr65 : cRes Try.prog Try.f65.results.toList = some r65 := by kernel_rfl
theorem ca65 : callable Try.prog 65 = true := by kernel_rfl
def g66_0 : List G := [⟨(some 4), .mv (.c (.int .i64 (0))), none⟩]
def d66_0 : Option (List (List Nat)) := none
def l66_0 : List Nat := []
theorem cd66_0 : dOk d66_0 g66_0 l66_0 = true := by kernel_rfl
def g66_1 : List G := [⟨(some 9), .mv (.t 0), none⟩,
  ⟨(some 10), .len (.t 9), none⟩,
  ⟨(some 11), .mv (.c (.int .i64 (0))), none⟩]
def d66_1 : Option (List (List Nat)) := none
def l66_1 : List Nat := []
theorem cd66_1 : dOk d66_1 g66_1 l66_1 = true := by kernel_rfl
def g66_2 : List G := [⟨(some 12), .bin .lss (.t 11) (.t 10), none⟩]
def d66_2 : Option (List (List Nat)) := none
def l66_2 : List Nat := []
theorem cd66_2 : dOk d66_2 g66_2 l66_2 = true := by kernel_rfl
def g66_3 : List G := [⟨(some 13), .mv (.t 11), none⟩,
  ⟨(some 14), .is 1 (.t 9) (.t 11), none⟩,
  ⟨(some 15), .ld none (.t 14), none⟩,
  ⟨(some 5), .mv (.t 13), none⟩,
  ⟨(some 6), .mv (.t 15), none⟩]
def d66_3 : Option (List (List Nat)) := none
def l66_3 : List Nat := []
theorem cd66_3 : dOk d66_3 g66_3 l66_3 = true := by kernel_rfl
def g66_4 : List G := [⟨(some 16), .mv (.t 5), none⟩,
  ⟨(some 17), .mv (.t 1), none⟩,
  ⟨(some 18), .len (.t 17), none⟩,
  ⟨(some 19), .bin .geq (.t 16) (.t 18), none⟩]
def d66_4 : Option (List (List Nat)) := none
def l66_4 : List Nat := []
theorem cd66_4 : dOk d66_4 g66_4 l66_4 = true := by kernel_rfl
def g66_5 : List G := [⟨(some 4), .mv (.c (.int .i64 (1))), none⟩]
def d66_5 : Option (List (List Nat)) := none
def l66_5 : List Nat := []
theorem cd66_5 : dOk d66_5 g66_5 l66_5 = true := by kernel_rfl
def g66_6 : List G := [⟨(some 20), .mv (.t 1), none⟩,
  ⟨(some 21), .mv (.t 5), none⟩,
  ⟨(some 22), .is 1 (.t 20) (.t 21), none⟩,
  ⟨(some 23), .ld none (.t 22), none⟩,
  ⟨(some 7), .mv (.t 23), none⟩]
def d66_6 : Option (List (List Nat)) := none
def l66_6 : List Nat := []
theorem cd66_6 : dOk d66_6 g66_6 l66_6 = true := by kernel_rfl
def g66_7 : List G := [⟨(some 24), .mv (.t 6), none⟩,
  ⟨(some 25), .mv (.t 7), none⟩,
  ⟨(some 26), .call 106 [(.t 24), (.t 25)], none⟩,
  ⟨(some 8), .mv (.t 26), none⟩]
def d66_7 : Option (List (List Nat)) := none
def l66_7 : List Nat := []
theorem cd66_7 : dOk d66_7 g66_7 l66_7 = true := by kernel_rfl
def g66_8 : List G := [⟨(some 27), .mv (.t 8), none⟩,
  ⟨(some 28), .bin .neq (.t 27) (.c (.int .i64 (0))), none⟩]
def d66_8 : Option (List (List Nat)) := none
def l66_8 : List Nat := []
theorem cd66_8 : dOk d66_8 g66_8 l66_8 = true := by kernel_rfl
def g66_9 : List G := [⟨(some 29), .mv (.t 8), none⟩,
  ⟨(some 4), .mv (.t 29), none⟩]
def d66_9 : Option (List (List Nat)) := none
def l66_9 : List Nat := []
theorem cd66_9 : dOk d66_9 g66_9 l66_9 = true := by kernel_rfl
def g66_10 : List G := [⟨(some 30), .bin .add (.t 11) (.c (.int .i64 (1))), none⟩,
  ⟨(some 11), .mv (.t 30), none⟩]
def d66_10 : Option (List (List Nat)) := none
def l66_10 : List Nat := []
theorem cd66_10 : dOk d66_10 g66_10 l66_10 = true := by kernel_rfl
def g66_11 : List G := [⟨(some 31), .mv (.t 0), none⟩,
  ⟨(some 32), .len (.t 31), none⟩,
  ⟨(some 33), .mv (.t 1), none⟩,
  ⟨(some 34), .len (.t 33), none⟩,
  ⟨(some 35), .bin .lss (.t 32) (.t 34), none⟩]
def d66_11 : Option (List (List Nat)) := none
def l66_11 : List Nat := []
theorem cd66_11 : dOk d66_11 g66_11 l66_11 = true := by kernel_rfl
def g66_12 : List G := [⟨(some 4), .mv (.c (.int .i64 (-1))), none⟩]
def d66_12 : Option (List (List Nat)) := none
def l66_12 : List Nat := []
theorem cd66_12 : dOk d66_12 g66_12 l66_12 = true := by kernel_rfl
def g66_13 : List G := [⟨(some 4), .mv (.c (.int .i64 (0))), none⟩]
def d66_13 : Option (List (List Nat)) := none
def l66_13 : List Nat := []
theorem cd66_13 : dOk d66_13 g66_13 l66_13 = true := by kernel_rfl
def c66 : AC := (.seq (.reg d66_0 g66_0) (.seq (.seq (.reg d66_1 g66_1) (.block 0 (.loop (.seq (.reg d66_2 g66_2) (.seq (.cond (.t 12) .skip (.exit 0)) (.seq (.block 1 (.seq (.reg d66_3 g66_3) (.seq (.seq (.reg d66_4 g66_4) (.cond (.t 19) (.seq (.reg d66_5 g66_5) .ret) .skip)) (.seq (.reg d66_6 g66_6) (.seq (.reg d66_7 g66_7) (.seq (.reg d66_8 g66_8) (.cond (.t 28) (.seq (.reg d66_9 g66_9) .ret) .skip))))))) (.reg d66_10 g66_10))))))) (.seq (.seq (.reg d66_11 g66_11) (.cond (.t 35) (.seq (.reg d66_12 g66_12) .ret) .skip)) (.seq (.reg d66_13 g66_13) .ret))))
def r66 : List RV := [.tmp 4]
theorem cc66 : (Try.f66.body.bind (cCode Try.prog Try.f66.ntmps)) = some c66 := by kernel_rfl
theorem cr66 : cRes Try.prog Try.f66.results.toList = some r66 := by kernel_rfl
theorem ca66 : callable Try.prog 66 = true := by kernel_rfl
def g67_0 : List G := [⟨(some 3), .box (.t 0), none⟩,
  ⟨(some 6), .mv (.c (.bool false)), none⟩]
def d67_0 : Option (List (List Nat)) := none
def l67_0 : List Nat := []
theorem cd67_0 : dOk d67_0 g67_0 l67_0 = true := by kernel_rfl
def g67_1 : List G := [⟨(some 11), .mv (.t 1), none⟩,
  ⟨(some 12), .len (.t 11), none⟩,
  ⟨(some 13), .mv (.c (.int .i64 (0))), none⟩]
def d67_1 : Option (List (List Nat)) := none
def l67_1 : List Nat := []
theorem cd67_1 : dOk d67_1 g67_1 l67_1 = true := by kernel_rfl
def g67_2 : List G := [⟨(some 14), .bin .lss (.t 13) (.t 12), none⟩]
def d67_2 : Option (List (List Nat)) := none
def l67_2 : List Nat := []
theorem cd67_2 : dOk d67_2 g67_2 l67_2 = true := by kernel_rfl
def g67_3 : List G := [⟨(some 15), .mv (.t 13), none⟩,
  ⟨(some 16), .is 7 (.t 11) (.t 13), none⟩,
  ⟨(some 17), .ld (some 7) (.t 16), none⟩,
  ⟨(some 8), .alloc (.agg [.int .i64 (0), .agg [.int .i64 (0), .int .i64 (0), .int .i64 (0), .int .i64 (0), .int .i64 (0), .int .i64 (0)]]), none⟩,
  ⟨(some 7), .mv (.t 15), none⟩,
  ⟨none, .st (some 7) (.t 8) (.t 17), none⟩]
def d67_3 : Option (List (List Nat)) := none
def l67_3 : List Nat := []
theorem cd67_3 : dOk d67_3 g67_3 l67_3 = true := by kernel_rfl
def g67_4 : List G := [⟨(some 18), .mv (.t 1), none⟩,
  ⟨(some 19), .mv (.t 7), none⟩,
  ⟨(some 20), .sl 7 (.t 18) none (some (.t 19)) none, none⟩,
  ⟨(some 21), .len (.t 20), none⟩,
  ⟨(some 22), .mv (.c (.int .i64 (0))), none⟩]
def d67_4 : Option (List (List Nat)) := none
def l67_4 : List Nat := []
theorem cd67_4 : dOk d67_4 g67_4 l67_4 = true := by kernel_rfl
def g67_5 : List G := [⟨(some 23), .bin .lss (.t 22) (.t 21), none⟩]
def d67_5 : Option (List (List Nat)) := none
def l67_5 : List Nat := []
theorem cd67_5 : dOk d67_5 g67_5 l67_5 = true := by kernel_rfl
def g67_6 : List G := [⟨(some 24), .is 7 (.t 20) (.t 22), none⟩,
  ⟨(some 25), .ld (some 7) (.t 24), none⟩,
  ⟨(some 10), .alloc (.agg [.int .i64 (0), .agg [.int .i64 (0), .int .i64 (0), .int .i64 (0), .int .i64 (0), .int .i64 (0), .int .i64 (0)]]), none⟩,
  ⟨none, .st (some 7) (.t 10) (.t 25), none⟩]
def d67_6 : Option (List (List Nat)) := none
def l67_6 : List Nat := []
theorem cd67_6 : dOk d67_6 g67_6 l67_6 = true := by kernel_rfl
def g67_7 : List G := [⟨(some 26), .mv (.t 2), none⟩,
  ⟨(some 27), .mk 107 [(.t 3), (.t 8), (.t 10)], none⟩,
  ⟨(some 28), .call 75 [(.t 26), (.t 27)], none⟩,
  ⟨(some 29), .un .not (.t 28), none⟩]
def d67_7 : Option (List (List Nat)) := none
def l67_7 : List Nat := []
theorem cd67_7 : dOk d67_7 g67_7 l67_7 = true := by kernel_rfl
def g67_8 : List G := [⟨(some 6), .mv (.c (.bool false)), none⟩]
def d67_8 : Option (List (List Nat)) := none
def l67_8 : List Nat := []
theorem cd67_8 : dOk d67_8 g67_8 l67_8 = true := by kernel_rfl
def g67_9 : List G := [⟨(some 30), .bin .add (.t 22) (.c (.int .i64 (1))), none⟩,
  ⟨(some 22), .mv (.t 30), none⟩]
def d67_9 : Option (List (List Nat)) := none
def l67_9 : List Nat := []
theorem cd67_9 : dOk d67_9 g67_9 l67_9 = true := by kernel_rfl
def g67_10 : List G := [⟨(some 31), .bin .add (.t 13) (.c (.int .i64 (1))), none⟩,
  ⟨(some 13), .mv (.t 31), none⟩]
def d67_10 : Option (List (List Nat)) := none
def l67_10 : List Nat := []
theorem cd67_10 : dOk d67_10 g67_10 l67_10 = true := by kernel_rfl
def g67_11 : List G := [⟨(some 6), .mv (.c (.bool true)), none⟩]
def d67_11 : Option (List (List Nat)) := none
def l67_11 : List Nat := []
theorem cd67_11 : dOk d67_11 g67_11 l67_11 = true := by kernel_rfl
def c67 : AC := (.seq (.reg d67_0 g67_0) (.seq (.seq (.reg d67_1 g67_1) (.block 0 (.loop (.seq (.reg d67_2 g67_2) (.seq (.cond (.t 14) .skip (.exit 0)) (.seq (.block 1 (.seq (.reg d67_3 g67_3) (.seq (.reg d67_4 g67_4) (.block 2 (.loop (.seq (.reg d67_5 g67_5) (.seq (.cond (.t 23) .skip (.exit 2)) (.seq (.block 3 (.seq (.reg d67_6 g67_6) (.seq (.reg d67_7 g67_7) (.cond (.t 29) (.seq (.reg d67_8 g67_8) .ret) .skip)))) (.reg d67_9 g67_9))))))))) (.reg d67_10 g67_10))))))) (.seq (.reg d67_11 g67_11) .ret)))
def r67 : List RV := [.tmp 6]
theorem cc67 : (Try.f67.body.bind (cCode Try.prog Try.f67.ntmps)) = some c67 := by kernel_rfl
theorem cr67 : cRes Try.prog Try.f67.results.toList = some r67 := by kernel_rfl
theorem ca67 : callable Try.prog 67 = true := by kernel_rfl
def g71_0 : List G := [⟨(some 2), .mv (.c (.bool false)), none⟩]
def d71_0 : Option (List (List Nat)) := none
def l71_0 : List Nat := []
theorem cd71_0 : dOk d71_0 g71_0 l71_0 = true := by kernel_rfl
def g71_1 : List G := [⟨(some 5), .mv (.t 0), none⟩,
  ⟨(some 6), .len (.t 5), none⟩,
  ⟨(some 7), .mv (.c (.int .i64 (0))), none⟩]
def d71_1 : Option (List (List Nat)) := none
def l71_1 : List Nat := []
theorem cd71_1 : dOk d71_1 g71_1 l71_1 = true := by kernel_rfl
def g71_2 : List G := [⟨(some 8), .bin .lss (.t 7) (.t 6), none⟩]
def d71_2 : Option (List (List Nat)) := none
def l71_2 : List Nat := []
theorem cd71_2 : dOk d71_2 g71_2 l71_2 = true := by kernel_rfl
def g71_3 : List G := [⟨(some 9), .mv (.t 7), none⟩,
  ⟨(some 10), .is 1 (.t 5) (.t 7), none⟩,
  ⟨(some 11), .ld none (.t 10), none⟩,
  ⟨(some 3), .mv (.t 9), none⟩,
  ⟨(some 4), .mv (.t 11), none⟩]
def d71_3 : Option (List (List Nat)) := none
def l71_3 : List Nat := []
theorem cd71_3 : dOk d71_3 g71_3 l71_3 = true := by kernel_rfl
def g71_4 : List G := [⟨(some 12), .mv (.t 4), none⟩,
  ⟨(some 13), .call 89 [(.t 12), (.c (.int .i64 (0))), (.c (.int .i64 (5)))], none⟩,
  ⟨(some 14), .un .not (.t 13), none⟩,
  ⟨(some 15), .mv (.t 14), none⟩,
  ⟨(some 16), .mv (.t 3), some (15, false)⟩,
  ⟨(some 17), .bin .gtr (.t 16) (.c (.int .i64 (0))), some (15, false)⟩,
  ⟨(some 18), .mv (.t 17), some (15, false)⟩,
  ⟨(some 19), .mv (.t 0), some (18, true)⟩,
  ⟨(some 20), .mv (.t 3), some (18, true)⟩,
  ⟨(some 21), .bin .sub (.t 20) (.c (.int .i64 (1))), some (18, true)⟩,
  ⟨(some 22), .is 1 (.t 19) (.t 21), some (18, true)⟩,
  ⟨(some 23), .ld none (.t 22), some (18, true)⟩,
  ⟨(some 24), .mv (.t 4), some (18, true)⟩,
  ⟨(some 25), .bin .geq (.t 23) (.t 24), some (18, true)⟩,
  ⟨(some 26), .pick (.t 18) (.t 25) (.c (.bool false)), some (15, false)⟩,
  ⟨(some 27), .pick (.t 15) (.c (.bool true)) (.t 26), none⟩]
def d71_4 : Option (List (List Nat)) := none
def l71_4 : List Nat := []
theorem cd71_4 : dOk d71_4 g71_4 l71_4 = true := by kernel_rfl
def g71_5 : List G := [⟨(some 2), .mv (.c (.bool false)), none⟩]
def d71_5 : Option (List (List Nat)) := none
def l71_5 : List Nat := []
theorem cd71_5 : dOk d71_5 g71_5 l71_5 = true := by kernel_rfl
def g71_6 : List G := [⟨(some 28), .bin .add (.t 7) (.c (.int .i64 (1))), none⟩,
  ⟨(some 7), .mv (.t 28), none⟩]
def d71_6 : Option (List (List Nat)) := none
def l71_6 : List Nat := []
theorem cd71_6 : dOk d71_6 g71_6 l71_6 = true := by kernel_rfl
def g71_7 : List G := [⟨(some 2), .mv (.c (.bool true)), none⟩]
def d71_7 : Option (List (List Nat)) := none
def l71_7 : List Nat := []
theorem cd71_7 : dOk d71_7 g71_7 l71_7 = true := by kernel_rfl
def c71 : AC := (.seq (.reg d71_0 g71_0) (.seq (.seq (.reg d71_1 g71_1) (.block 0 (.loop (.seq (.reg d71_2 g71_2) (.seq (.cond (.t 8) .skip (.exit 0)) (.seq (.block 1 (.seq (.reg d71_3 g71_3) (.seq (.reg d71_4 g71_4) (.cond (.t 27) (.seq (.reg d71_5 g71_5) .ret) .skip)))) (.reg d71_6 g71_6))))))) (.seq (.reg d71_7 g71_7) .ret)))
def r71 : List RV := [.tmp 2]
theorem cc71 : (Try.f71.body.bind (cCode Try.prog Try.f71.ntmps)) = some c71 := by kernel_rfl
theorem cr71 : cRes Try.prog Try.f71.results.toList = some r71 := by kernel_rfl
theorem ca71 : callable Try.prog 71 = true := by kernel_rfl
def g72_0 : List G := [⟨(some 2), .mv (.c (.nils 1)), none⟩]
def d72_0 : Option (List (List Nat)) := none
def l72_0 : List Nat := []
theorem cd72_0 : dOk d72_0 g72_0 l72_0 = true := by kernel_rfl
def g72_1 : List G := [⟨(some 3), .mv (.c (.nils 1)), none⟩]
def d72_1 : Option (List (List Nat)) := none
def l72_1 : List Nat := []
theorem cd72_1 : dOk d72_1 g72_1 l72_1 = true := by kernel_rfl
def g72_2 : List G := [⟨(some 6), .mv (.t 0), none⟩,
  ⟨(some 7), .len (.t 6), none⟩,
  ⟨(some 8), .mv (.c (.int .i64 (0))), none⟩]
def d72_2 : Option (List (List Nat)) := none
def l72_2 : List Nat := []
theorem cd72_2 : dOk d72_2 g72_2 l72_2 = true := by kernel_rfl
def g72_3 : List G := [⟨(some 9), .bin .lss (.t 8) (.t 7), none⟩]
def d72_3 : Option (List (List Nat)) := none
def l72_3 : List Nat := []
theorem cd72_3 : dOk d72_3 g72_3 l72_3 = true := by kernel_rfl
def g72_4 : List G := [⟨(some 10), .is 7 (.t 6) (.t 8), none⟩,
  ⟨(some 11), .ld (some 7) (.t 10), none⟩,
  ⟨(some 5), .alloc (.agg [.int .i64 (0), .agg [.int .i64 (0), .int .i64 (0), .int .i64 (0), .int .i64 (0), .int .i64 (0), .int .i64 (0)]]), none⟩,
  ⟨none, .st (some 7) (.t 5) (.t 11), none⟩]
def d72_4 : Option (List (List Nat)) := none
def l72_4 : List Nat := []
theorem cd72_4 : dOk d72_4 g72_4 l72_4 = true := by kernel_rfl
def g72_5 : List G := [⟨(some 12), .mv (.t 3), none⟩,
  ⟨(some 13), .fa 0 0 (.t 5), none⟩,
  ⟨(some 14), .ld none (.t 13), none⟩,
  ⟨(some 15), .bs 1 [(.t 14)], none⟩,
  ⟨(some 16), .app 3 1 8 (.int .i64 (0)) (.t 12) (.t 15), none⟩,
  ⟨(some 3), .mv (.t 16), none⟩]
def d72_5 : Option (List (List Nat)) := none
def l72_5 : List Nat := []
theorem cd72_5 : dOk d72_5 g72_5 l72_5 = true := by kernel_rfl
def g72_6 : List G := [⟨(some 17), .bin .add (.t 8) (.c (.int .i64 (1))), none⟩,
  ⟨(some 8), .mv (.t 17), none⟩]
def d72_6 : Option (List (List Nat)) := none
def l72_6 : List Nat := []
theorem cd72_6 : dOk d72_6 g72_6 l72_6 = true := by kernel_rfl
def g72_7 : List G := [⟨(some 18), .mv (.t 3), none⟩,
  ⟨(some 2), .mv (.t 18), none⟩]
def d72_7 : Option (List (List Nat)) := none
def l72_7 : List Nat := []
theorem cd72_7 : dOk d72_7 g72_7 l72_7 = true := by kernel_rfl
def c72 : AC := (.seq (.reg d72_0 g72_0) (.seq (.reg d72_1 g72_1) (.seq (.seq (.reg d72_2 g72_2) (.block 0 (.loop (.seq (.reg d72_3 g72_3) (.seq (.cond (.t 9) .skip (.exit 0)) (.seq (.block 1 (.seq (.reg d72_4 g72_4) (.reg d72_5 g72_5))) (.reg d72_6 g72_6))))))) (.seq (.reg d72_7 g72_7) .ret))))
def r72 : List RV := [.tmp 2]
theorem cc72 : (Try.f72.body.bind (cCode Try.prog Try.f72.ntmps)) = some c72 := by kernel_rfl
theorem cr72 : cRes Try.prog Try.f72.results.toList = some r72 := by kernel_rfl
theorem ca72 : callable Try.prog 72 = true := by kernel_rfl
end Go.Proofs.Ytkjkbpgdpnapfaa

/-
  SMALL FUNCTIONS, EACH BY ITS CONTRACT: In, Has, Mod, At, IndexFunc and ContainsFunc over whole numbers.
-/
namespace Go.Proofs.Ytkjkbpgdpnapfaa
open Go Go.Abs
open Go.Abs.Enc (enc)
theorem tmod_wrap (n d : Int) (h0 : 0 < d) (h1 : d ≤ 4611686018427387904) : IntKind.i64.wrap (n.tmod d + d) = n.tmod d + d ∧ (n.tmod d + d).tmod d = n % d := by
  have a1 : n.tmod d < d := Int.tmod_lt_of_pos n h0
  have a2 : -d < n.tmod d := by
    have := Int.tmod_lt_of_pos (-n) h0
    rw [Int.neg_tmod] at this
    omega
  refine ⟨wrap_id _ (by omega) (by omega), ?_⟩
  rw [Int.tmod_eq_emod_of_nonneg (by omega), Int.add_emod_right]
  rw [Int.tmod_def, Int.sub_mul_emod_self_left]
theorem F23 (n d : Int) (h0 : 0 < d) (h1 : d ≤ 4611686018427387904) : Ctr Try.prog 23 [enc n, enc d] (enc (n % d)) := by
  refine Ctr.mk' Try.func23 ca23 cc23 cr23 (Nat.le_of_ble_eq_true rfl) (fun hwf W0 D0 E1 => ?_)
  simp only [c23, r23, idx, Nat.zero_add, Nat.reduceAdd]
  have hd : ¬ d = 0 := by omega
  refine AW.seq (AW.reg cd23_0 fun K hK => ?_)
  simp only [g23_0, bR, Nat.reduceEqDiff, reduceIte, Int.reduceBNe, Int.reduceBEq]
  refine .done (hK _ ?_); clear hK K; simp only [thenQ, blockQ]
  refine AW.seq (AW.reg cd23_1 fun K hK => ?_)
  simp only [g23_1, bR, Nat.reduceEqDiff, reduceIte, Int.reduceBNe, Int.reduceBEq]
  simp only [hd, bR, Nat.reduceEqDiff, reduceIte, Int.reduceBNe, Int.reduceBEq]
  refine .done (hK _ ?_); clear hK K; simp only [thenQ, blockQ]
  refine AW.ret ?_
  simp only [blockQ, thenQ, bR, Nat.reduceEqDiff, reduceIte, Int.reduceBNe, Int.reduceBEq]
  rw [(tmod_wrap n d h0 h1).1, (tmod_wrap n d h0 h1).2]
/-- The text's number at a place, the text going round. -/
def at' (c : List Int) (i : Int) : Int := if c = [] then 0 else c.getD (i % c.length).toNat 0
theorem F25 (c : List Int) (i : Int) (hc : c.length ≤ 4611686018427387904) : Ctr Try.prog 25 [enc c, enc i] (enc (at' c i)) := by
  refine Ctr.mk' Try.func25 ca25 cc25 cr25 (Nat.le_of_ble_eq_true rfl) (fun hwf W0 D0 E1 => ?_)
  simp only [c25, r25, idx, Nat.zero_add, Nat.reduceAdd]
  refine AW.seq (AW.reg cd25_0 fun K hK => ?_)
  simp only [g25_0, bR, Nat.reduceEqDiff, reduceIte, Int.reduceBNe, Int.reduceBEq]
  refine .done (hK _ ?_); clear hK K; simp only [thenQ, blockQ]
  refine AW.seq (AW.seq ?_)
  refine AW.reg cd25_1 fun K hK => ?_
  simp only [g25_1, bR, Nat.reduceEqDiff, reduceIte, Int.reduceBNe, Int.reduceBEq]
  simp only [useR, bR, Nat.reduceEqDiff, reduceIte, Int.reduceBNe, Int.reduceBEq]
  refine .done (hK _ ?_); clear hK K; simp only [thenQ, blockQ]
  refine AW.ite ?_
  simp only [condQ, bR, Nat.reduceEqDiff, reduceIte, Int.reduceBNe, Int.reduceBEq]
  refine ⟨fun h => ?_, fun h => ?_⟩
  · refine AW.seq (AW.reg cd25_2 fun K hK => ?_)
    simp only [g25_2, bR, Nat.reduceEqDiff, reduceIte, Int.reduceBNe, Int.reduceBEq]
    refine .done (hK _ ?_); clear hK K; simp only [thenQ, blockQ]
    refine AW.ret ?_
    simp only [blockQ, thenQ, bR, Nat.reduceEqDiff, reduceIte, Int.reduceBNe, Int.reduceBEq]
    simp at h
    simp [at', h]
  · simp at h
    have hpos : 0 < c.length := List.length_pos_iff.2 h
    have k1 : 0 ≤ i % (c.length : Int) := Int.emod_nonneg _ (by omega)
    have k2 : i % (c.length : Int) < c.length := Int.emod_lt_of_pos _ (by omega)
    have k3 : (i % (c.length : Int)).toNat < c.length := by omega
    refine AW.skip ?_; simp only [thenQ, blockQ, reduceIte, Nat.reduceEqDiff]
    refine AW.seq (AW.reg cd25_3 fun K hK => ?_)
    simp only [g25_3, bR, Nat.reduceEqDiff, reduceIte, Int.reduceBNe, Int.reduceBEq]
    simp only [useR, List.map_cons, List.map_nil, e_fin, bR, Nat.reduceEqDiff, reduceIte, Int.reduceBNe, Int.reduceBEq]
    refine .flat _ (F23 i c.length (by omega) (by omega)) rfl ?_
    simp only [bR, Nat.reduceEqDiff, reduceIte, Int.reduceBNe, Int.reduceBEq]
    simp only [isE_enc 1 ⟨k1, k3⟩ rfl, okR, bR, Nat.reduceEqDiff, reduceIte, Int.reduceBNe, Int.reduceBEq]
    refine .done (hK _ ?_); clear hK K; simp only [thenQ, blockQ]
    refine AW.ret ?_
    simp only [blockQ, thenQ, bR, Nat.reduceEqDiff, reduceIte, Int.reduceBNe, Int.reduceBEq]
    simp [at', h, List.getD_eq_getElem?_getD, k3]
end Go.Proofs.Ytkjkbpgdpnapfaa

/-
  CHECKS OF THE REFERENCE THAT LOOK AT AN ARRAY'S NUMBERS ONE BY ONE, EACH BY ITS CONTRACT: CheckMark, CheckReading, CheckWear, Sharp.
-/
namespace Go.Proofs.Ytkjkbpgdpnapfaa
open Go Go.Abs
open Go.Abs.Enc (enc)
def inR (lo hi n : Int) : Bool := decide (lo ≤ n) && decide (n ≤ hi)
def band (a b : Int) : Int := IntKind.i64.wrap ((BitVec.ofInt IntKind.i64.bits a &&& BitVec.ofInt IntKind.i64.bits b).toNat : Int)
def shl (a : Int) (k : Nat) : Int := IntKind.i64.wrap (a * 2 ^ min k IntKind.i64.bits)
end Go.Proofs.Ytkjkbpgdpnapfaa

