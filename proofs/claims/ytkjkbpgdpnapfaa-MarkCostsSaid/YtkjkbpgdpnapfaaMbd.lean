/-
  THE SEAT'S FUNCTIONS, READ (part 2): the code of each as the abstract layer reads it, by program; each tie is a closed fact.
-/
import Derived.KernelRfl
import Derived.Test.YtkjkbpgdpnapfaaChecked
import Derived.Test.YtkjkbpgdpnapfaaMbc
set_option linter.unusedSimpArgs false
set_option linter.unusedVariables false
namespace Go.Proofs.Ytkjkbpgdpnapfaa
open Go Go.Abs
-- 73 slices.DeleteFunc[[]pinfold/api.Given,pinfold/api.Given]
def g73_0 : List G := [⟨(some 4), .mv (.c (.nils 7)), none⟩]
def d73_0 : Option (List (List Nat)) := none
def l73_0 : List Nat := []
theorem cd73_0 : dOk d73_0 g73_0 l73_0 = true := by kernel_rfl
def g73_1 : List G := [⟨(some 8), .mv (.t 0), none⟩,
  ⟨(some 9), .mv (.t 1), none⟩,
  ⟨(some 10), .call 108 [(.t 8), (.t 9)], none⟩,
  ⟨(some 5), .mv (.t 10), none⟩]
def d73_1 : Option (List (List Nat)) := none
def l73_1 : List Nat := []
theorem cd73_1 : dOk d73_1 g73_1 l73_1 = true := by kernel_rfl
def g73_2 : List G := [⟨(some 11), .mv (.t 5), none⟩,
  ⟨(some 12), .bin .eql (.t 11) (.c (.int .i64 (-1))), none⟩]
def d73_2 : Option (List (List Nat)) := none
def l73_2 : List Nat := []
theorem cd73_2 : dOk d73_2 g73_2 l73_2 = true := by kernel_rfl
def g73_3 : List G := [⟨(some 13), .mv (.t 0), none⟩,
  ⟨(some 4), .mv (.t 13), none⟩]
def d73_3 : Option (List (List Nat)) := none
def l73_3 : List Nat := []
theorem cd73_3 : dOk d73_3 g73_3 l73_3 = true := by kernel_rfl
def g73_4 : List G := [⟨(some 14), .mv (.t 5), none⟩,
  ⟨(some 15), .bin .add (.t 14) (.c (.int .i64 (1))), none⟩,
  ⟨(some 6), .mv (.t 15), none⟩]
def d73_4 : Option (List (List Nat)) := none
def l73_4 : List Nat := []
theorem cd73_4 : dOk d73_4 g73_4 l73_4 = true := by kernel_rfl
def g73_5 : List G := [⟨(some 16), .mv (.t 6), none⟩,
  ⟨(some 17), .mv (.t 0), none⟩,
  ⟨(some 18), .len (.t 17), none⟩,
  ⟨(some 19), .bin .lss (.t 16) (.t 18), none⟩]
def d73_5 : Option (List (List Nat)) := none
def l73_5 : List Nat := []
theorem cd73_5 : dOk d73_5 g73_5 l73_5 = true := by kernel_rfl
def g73_6 : List G := [⟨(some 22), .mv (.t 0), none⟩,
  ⟨(some 23), .mv (.t 6), none⟩,
  ⟨(some 24), .is 7 (.t 22) (.t 23), none⟩,
  ⟨(some 25), .ld (some 7) (.t 24), none⟩,
  ⟨(some 7), .alloc (.agg [.int .i64 (0), .agg [.int .i64 (0), .int .i64 (0), .int .i64 (0), .int .i64 (0), .int .i64 (0), .int .i64 (0)]]), none⟩,
  ⟨none, .st (some 7) (.t 7) (.t 25), none⟩]
def d73_6 : Option (List (List Nat)) := none
def l73_6 : List Nat := []
theorem cd73_6 : dOk d73_6 g73_6 l73_6 = true := by kernel_rfl
def g73_7 : List G := [⟨(some 26), .mv (.t 1), none⟩,
  ⟨(some 27), .ld (some 7) (.t 7), none⟩,
  ⟨(some 28), .callv (.t 26) [(.t 27)], none⟩,
  ⟨(some 29), .un .not (.t 28), none⟩]
def d73_7 : Option (List (List Nat)) := none
def l73_7 : List Nat := []
theorem cd73_7 : dOk d73_7 g73_7 l73_7 = true := by kernel_rfl
def g73_8 : List G := [⟨(some 30), .mv (.t 0), none⟩,
  ⟨(some 31), .mv (.t 5), none⟩,
  ⟨(some 32), .ld (some 7) (.t 7), none⟩,
  ⟨(some 33), .is 7 (.t 30) (.t 31), none⟩,
  ⟨none, .st (some 7) (.t 33) (.t 32), none⟩]
def d73_8 : Option (List (List Nat)) := none
def l73_8 : List Nat := []
theorem cd73_8 : dOk d73_8 g73_8 l73_8 = true := by kernel_rfl
def g73_9 : List G := [⟨(some 34), .mv (.t 5), none⟩,
  ⟨(some 35), .bin .add (.t 34) (.c (.int .i64 (1))), none⟩,
  ⟨(some 5), .mv (.t 35), none⟩]
def d73_9 : Option (List (List Nat)) := none
def l73_9 : List Nat := []
theorem cd73_9 : dOk d73_9 g73_9 l73_9 = true := by kernel_rfl
def g73_10 : List G := [⟨(some 20), .mv (.t 6), none⟩,
  ⟨(some 21), .bin .add (.t 20) (.c (.int .i64 (1))), none⟩,
  ⟨(some 6), .mv (.t 21), none⟩]
def d73_10 : Option (List (List Nat)) := none
def l73_10 : List Nat := []
theorem cd73_10 : dOk d73_10 g73_10 l73_10 = true := by kernel_rfl
def g73_11 : List G := [⟨(some 36), .mv (.t 0), none⟩,
  ⟨(some 37), .mv (.t 5), none⟩,
  ⟨(some 38), .sl 7 (.t 36) (some (.t 37)) none none, none⟩,
  ⟨none, .clr 7 (.agg [.int .i64 (0), .agg [.int .i64 (0), .int .i64 (0), .int .i64 (0), .int .i64 (0), .int .i64 (0), .int .i64 (0)]]) (.t 38), none⟩]
def d73_11 : Option (List (List Nat)) := none
def l73_11 : List Nat := []
theorem cd73_11 : dOk d73_11 g73_11 l73_11 = true := by kernel_rfl
def g73_12 : List G := [⟨(some 39), .mv (.t 0), none⟩,
  ⟨(some 40), .mv (.t 5), none⟩,
  ⟨(some 41), .sl 7 (.t 39) none (some (.t 40)) none, none⟩,
  ⟨(some 4), .mv (.t 41), none⟩]
def d73_12 : Option (List (List Nat)) := none
def l73_12 : List Nat := []
theorem cd73_12 : dOk d73_12 g73_12 l73_12 = true := by kernel_rfl
def c73 : AC := (.seq (.reg d73_0 g73_0) (.seq (.reg d73_1 g73_1) (.seq (.seq (.reg d73_2 g73_2) (.cond (.t 12) (.seq (.reg d73_3 g73_3) .ret) .skip)) (.seq (.seq (.reg d73_4 g73_4) (.block 0 (.loop (.seq (.seq (.reg d73_5 g73_5) (.cond (.t 19) .skip (.exit 0))) (.seq (.block 1 (.seq (.reg d73_6 g73_6) (.seq (.reg d73_7 g73_7) (.cond (.t 29) (.seq (.reg d73_8 g73_8) (.reg d73_9 g73_9)) .skip)))) (.reg d73_10 g73_10)))))) (.seq (.reg d73_11 g73_11) (.seq (.reg d73_12 g73_12) .ret))))))
def r73 : List RV := [.tmp 4]
theorem cc73 : (Try.f73.body.bind (cCode Try.prog Try.f73.ntmps)) = some c73 := by kernel_rfl
theorem cr73 : cRes Try.prog Try.f73.results.toList = some r73 := by kernel_rfl
theorem ca73 : callable Try.prog 73 = true := by kernel_rfl
-- 74 pinfold/mark.Looked$1
def g74_0 : List G := [⟨(some 4), .box (.t 0), none⟩,
  ⟨(some 5), .mv (.c (.bool false)), none⟩]
def d74_0 : Option (List (List Nat)) := none
def l74_0 : List Nat := []
theorem cd74_0 : dOk d74_0 g74_0 l74_0 = true := by kernel_rfl
def g74_1 : List G := [⟨(some 6), .ld none (.t 1), none⟩,
  ⟨(some 7), .mk 76 [(.t 2), (.t 4), (.t 3)], none⟩,
  ⟨(some 8), .call 75 [(.t 6), (.t 7)], none⟩,
  ⟨(some 5), .mv (.t 8), none⟩]
def d74_1 : Option (List (List Nat)) := none
def l74_1 : List Nat := []
theorem cd74_1 : dOk d74_1 g74_1 l74_1 = true := by kernel_rfl
def c74 : AC := (.seq (.reg d74_0 g74_0) (.seq (.reg d74_1 g74_1) .ret))
def r74 : List RV := [.tmp 5]
theorem cc74 : (Try.f74.body.bind (cCode Try.prog Try.f74.ntmps)) = some c74 := by kernel_rfl
theorem cr74 : cRes Try.prog Try.f74.results.toList = some r74 := by kernel_rfl
theorem ca74 : callable Try.prog 74 = true := by kernel_rfl
-- 75 slices.ContainsFunc[[]int,int]
def g75_0 : List G := [⟨(some 4), .mv (.c (.bool false)), none⟩]
def d75_0 : Option (List (List Nat)) := none
def l75_0 : List Nat := []
theorem cd75_0 : dOk d75_0 g75_0 l75_0 = true := by kernel_rfl
def g75_1 : List G := [⟨(some 5), .mv (.t 0), none⟩,
  ⟨(some 6), .mv (.t 1), none⟩,
  ⟨(some 7), .call 109 [(.t 5), (.t 6)], none⟩,
  ⟨(some 8), .bin .geq (.t 7) (.c (.int .i64 (0))), none⟩,
  ⟨(some 4), .mv (.t 8), none⟩]
def d75_1 : Option (List (List Nat)) := none
def l75_1 : List Nat := []
theorem cd75_1 : dOk d75_1 g75_1 l75_1 = true := by kernel_rfl
def c75 : AC := (.seq (.reg d75_0 g75_0) (.seq (.reg d75_1 g75_1) .ret))
def r75 : List RV := [.tmp 4]
theorem cc75 : (Try.f75.body.bind (cCode Try.prog Try.f75.ntmps)) = some c75 := by kernel_rfl
theorem cr75 : cRes Try.prog Try.f75.results.toList = some r75 := by kernel_rfl
theorem ca75 : callable Try.prog 75 = true := by kernel_rfl
-- 76 pinfold/mark.Looked$1$1
def g76_0 : List G := [⟨(some 5), .mv (.c (.bool false)), none⟩]
def d76_0 : Option (List (List Nat)) := none
def l76_0 : List Nat := []
theorem cd76_0 : dOk d76_0 g76_0 l76_0 = true := by kernel_rfl
def g76_1 : List G := [⟨(some 6), .fa 0 0 (.t 1), none⟩,
  ⟨(some 7), .ld (some 5) (.t 6), none⟩,
  ⟨(some 8), .fa 1 1 (.t 2), none⟩,
  ⟨(some 9), .ld (some 6) (.t 8), none⟩,
  ⟨(some 10), .mv (.t 0), none⟩,
  ⟨(some 11), .call 77 [(.t 7), (.t 9), (.t 10)], none⟩,
  ⟨(some 12), .mv (.t 0), none⟩,
  ⟨(some 13), .ia 6 1 (.t 3) (.t 12), none⟩,
  ⟨(some 14), .ld none (.t 13), none⟩,
  ⟨(some 15), .call 78 [(.t 11), (.t 14)], none⟩,
  ⟨(some 16), .un .not (.t 15), none⟩,
  ⟨(some 5), .mv (.t 16), none⟩]
def d76_1 : Option (List (List Nat)) := (some [[], [0], [], [2], [], [1, 3, 4], [], [6], [7], [5, 8, 5], [9], [10, 9, 0, 1, 2, 3, 4, 5, 6, 7, 8, 9, 10]])
def l76_1 : List Nat := [0, 1, 0, 4, 0, 31, 0, 64, 192, 511, 1023, 2047]
theorem cd76_1 : dOk d76_1 g76_1 l76_1 = true := by kernel_rfl
def c76 : AC := (.seq (.reg d76_0 g76_0) (.seq (.reg d76_1 g76_1) .ret))
def r76 : List RV := [.tmp 5]
theorem cc76 : (Try.f76.body.bind (cCode Try.prog Try.f76.ntmps)) = some c76 := by kernel_rfl
theorem cr76 : cRes Try.prog Try.f76.results.toList = some r76 := by kernel_rfl
theorem ca76 : callable Try.prog 76 = true := by kernel_rfl
-- 77 pinfold/mark.worn
def g77_0 : List G := [⟨(some 3), .box (.t 0), none⟩,
  ⟨(some 4), .box (.t 1), none⟩,
  ⟨(some 6), .mv (.c (.int .i64 (0))), none⟩]
def d77_0 : Option (List (List Nat)) := none
def l77_0 : List Nat := []
theorem cd77_0 : dOk d77_0 g77_0 l77_0 = true := by kernel_rfl
def g77_1 : List G := [⟨(some 7), .mv (.t 2), none⟩,
  ⟨(some 8), .ia 6 1 (.t 4) (.t 7), none⟩,
  ⟨(some 9), .ld none (.t 8), none⟩,
  ⟨(some 10), .ia 5 1 (.t 3) (.t 9), none⟩,
  ⟨(some 11), .ld none (.t 10), none⟩,
  ⟨(some 6), .mv (.t 11), none⟩]
def d77_1 : Option (List (List Nat)) := none
def l77_1 : List Nat := []
theorem cd77_1 : dOk d77_1 g77_1 l77_1 = true := by kernel_rfl
def c77 : AC := (.seq (.reg d77_0 g77_0) (.seq (.reg d77_1 g77_1) .ret))
def r77 : List RV := [.tmp 6]
theorem cc77 : (Try.f77.body.bind (cCode Try.prog Try.f77.ntmps)) = some c77 := by kernel_rfl
theorem cr77 : cRes Try.prog Try.f77.results.toList = some r77 := by kernel_rfl
theorem ca77 : callable Try.prog 77 = true := by kernel_rfl
-- 78 (pinfold/mark.signs).meets
def g78_0 : List G := [⟨(some 4), .mv (.c (.bool false)), none⟩]
def d78_0 : Option (List (List Nat)) := none
def l78_0 : List Nat := []
theorem cd78_0 : dOk d78_0 g78_0 l78_0 = true := by kernel_rfl
def g78_1 : List G := [⟨(some 5), .mv (.t 0), none⟩,
  ⟨(some 6), .mv (.t 1), none⟩,
  ⟨(some 7), .bin .and (.t 5) (.t 6), none⟩,
  ⟨(some 8), .bin .neq (.t 7) (.c (.int .i64 (0))), none⟩,
  ⟨(some 4), .mv (.t 8), none⟩]
def d78_1 : Option (List (List Nat)) := none
def l78_1 : List Nat := []
theorem cd78_1 : dOk d78_1 g78_1 l78_1 = true := by kernel_rfl
def c78 : AC := (.seq (.reg d78_0 g78_0) (.seq (.reg d78_1 g78_1) .ret))
def r78 : List RV := [.tmp 4]
theorem cc78 : (Try.f78.body.bind (cCode Try.prog Try.f78.ntmps)) = some c78 := by kernel_rfl
theorem cr78 : cRes Try.prog Try.f78.results.toList = some r78 := by kernel_rfl
theorem ca78 : callable Try.prog 78 = true := by kernel_rfl
-- 79 pinfold/pinfoldref01.arePlaces
def g79_0 : List G := [⟨(some 2), .mv (.c (.bool false)), none⟩]
def d79_0 : Option (List (List Nat)) := none
def l79_0 : List Nat := []
theorem cd79_0 : dOk d79_0 g79_0 l79_0 = true := by kernel_rfl
def g79_1 : List G := [⟨(some 3), .mv (.c (.int .i64 (0))), none⟩]
def d79_1 : Option (List (List Nat)) := none
def l79_1 : List Nat := []
theorem cd79_1 : dOk d79_1 g79_1 l79_1 = true := by kernel_rfl
def g79_2 : List G := [⟨(some 4), .mv (.t 3), none⟩,
  ⟨(some 5), .mv (.t 0), none⟩,
  ⟨(some 6), .len (.t 5), none⟩,
  ⟨(some 7), .bin .lss (.t 4) (.t 6), none⟩]
def d79_2 : Option (List (List Nat)) := none
def l79_2 : List Nat := []
theorem cd79_2 : dOk d79_2 g79_2 l79_2 = true := by kernel_rfl
def g79_3 : List G := [⟨(some 10), .mv (.t 0), none⟩,
  ⟨(some 11), .mv (.t 3), none⟩,
  ⟨(some 12), .is 1 (.t 10) (.t 11), none⟩,
  ⟨(some 13), .ld none (.t 12), none⟩,
  ⟨(some 14), .call 94 [(.t 13), (.c (.int .i64 (0))), (.c (.int .i64 (5)))], none⟩,
  ⟨(some 15), .un .not (.t 14), none⟩,
  ⟨(some 16), .mv (.t 15), none⟩,
  ⟨(some 17), .mv (.t 3), some (16, false)⟩,
  ⟨(some 18), .bin .gtr (.t 17) (.c (.int .i64 (0))), some (16, false)⟩,
  ⟨(some 19), .mv (.t 18), some (16, false)⟩,
  ⟨(some 20), .mv (.t 0), some (19, true)⟩,
  ⟨(some 21), .mv (.t 3), some (19, true)⟩,
  ⟨(some 22), .bin .sub (.t 21) (.c (.int .i64 (1))), some (19, true)⟩,
  ⟨(some 23), .is 1 (.t 20) (.t 22), some (19, true)⟩,
  ⟨(some 24), .ld none (.t 23), some (19, true)⟩,
  ⟨(some 25), .mv (.t 0), some (19, true)⟩,
  ⟨(some 26), .mv (.t 3), some (19, true)⟩,
  ⟨(some 27), .is 1 (.t 25) (.t 26), some (19, true)⟩,
  ⟨(some 28), .ld none (.t 27), some (19, true)⟩,
  ⟨(some 29), .bin .geq (.t 24) (.t 28), some (19, true)⟩,
  ⟨(some 30), .pick (.t 19) (.t 29) (.c (.bool false)), some (16, false)⟩,
  ⟨(some 31), .pick (.t 16) (.c (.bool true)) (.t 30), none⟩]
def d79_3 : Option (List (List Nat)) := (some [[], [], [0, 1], [2], [3], [4], [5, 4], [6], [7, 6], [8, 6, 6], [9], [9], [11, 9], [10, 12, 9], [13, 9], [9], [9], [15, 16, 9], [17, 9], [14, 18, 9], [9, 19, 6], [6, 20]])
def l79_3 : List Nat := [0, 0, 3, 7, 15, 31, 63, 127, 255, 511, 1023, 1023, 3071, 8191, 16383, 1023, 1023, 99327, 230399, 524287, 1048575, 2097151]
theorem cd79_3 : dOk d79_3 g79_3 l79_3 = true := by kernel_rfl
def g79_4 : List G := [⟨(some 2), .mv (.c (.bool false)), none⟩]
def d79_4 : Option (List (List Nat)) := none
def l79_4 : List Nat := []
theorem cd79_4 : dOk d79_4 g79_4 l79_4 = true := by kernel_rfl
def g79_5 : List G := [⟨(some 8), .mv (.t 3), none⟩,
  ⟨(some 9), .bin .add (.t 8) (.c (.int .i64 (1))), none⟩,
  ⟨(some 3), .mv (.t 9), none⟩]
def d79_5 : Option (List (List Nat)) := none
def l79_5 : List Nat := []
theorem cd79_5 : dOk d79_5 g79_5 l79_5 = true := by kernel_rfl
def g79_6 : List G := [⟨(some 2), .mv (.c (.bool true)), none⟩]
def d79_6 : Option (List (List Nat)) := none
def l79_6 : List Nat := []
theorem cd79_6 : dOk d79_6 g79_6 l79_6 = true := by kernel_rfl
def c79 : AC := (.seq (.reg d79_0 g79_0) (.seq (.seq (.reg d79_1 g79_1) (.block 0 (.loop (.seq (.seq (.reg d79_2 g79_2) (.cond (.t 7) .skip (.exit 0))) (.seq (.block 1 (.seq (.reg d79_3 g79_3) (.cond (.t 31) (.seq (.reg d79_4 g79_4) .ret) .skip))) (.reg d79_5 g79_5)))))) (.seq (.reg d79_6 g79_6) .ret)))
def r79 : List RV := [.tmp 2]
theorem cc79 : (Try.f79.body.bind (cCode Try.prog Try.f79.ntmps)) = some c79 := by kernel_rfl
theorem cr79 : cRes Try.prog Try.f79.results.toList = some r79 := by kernel_rfl
theorem ca79 : callable Try.prog 79 = true := by kernel_rfl
-- 80 pinfold/pinfoldref01.index
def g80_0 : List G := [⟨(some 2), .box (.t 0), none⟩,
  ⟨(some 4), .mv (.c (.int .i64 (0))), none⟩]
def d80_0 : Option (List (List Nat)) := none
def l80_0 : List Nat := []
theorem cd80_0 : dOk d80_0 g80_0 l80_0 = true := by kernel_rfl
def g80_1 : List G := [⟨(some 5), .mv (.c (.int .i64 (0))), none⟩]
def d80_1 : Option (List (List Nat)) := none
def l80_1 : List Nat := []
theorem cd80_1 : dOk d80_1 g80_1 l80_1 = true := by kernel_rfl
def g80_2 : List G := [⟨(some 6), .mv (.t 5), none⟩,
  ⟨(some 7), .fa 2 6 (.t 2), none⟩,
  ⟨(some 8), .ld none (.t 7), none⟩,
  ⟨(some 9), .len (.t 8), none⟩,
  ⟨(some 10), .bin .lss (.t 6) (.t 9), none⟩]
def d80_2 : Option (List (List Nat)) := none
def l80_2 : List Nat := []
theorem cd80_2 : dOk d80_2 g80_2 l80_2 = true := by kernel_rfl
def g80_3 : List G := [⟨(some 13), .fa 2 6 (.t 2), none⟩,
  ⟨(some 14), .ld none (.t 13), none⟩,
  ⟨(some 15), .mv (.t 5), none⟩,
  ⟨(some 16), .is 7 (.t 14) (.t 15), none⟩,
  ⟨(some 17), .fa 0 0 (.t 16), none⟩,
  ⟨(some 18), .ld none (.t 17), none⟩,
  ⟨(some 19), .mv (.t 1), none⟩,
  ⟨(some 20), .bin .eql (.t 18) (.t 19), none⟩]
def d80_3 : Option (List (List Nat)) := none
def l80_3 : List Nat := []
theorem cd80_3 : dOk d80_3 g80_3 l80_3 = true := by kernel_rfl
def g80_4 : List G := [⟨(some 21), .mv (.t 5), none⟩,
  ⟨(some 4), .mv (.t 21), none⟩]
def d80_4 : Option (List (List Nat)) := none
def l80_4 : List Nat := []
theorem cd80_4 : dOk d80_4 g80_4 l80_4 = true := by kernel_rfl
def g80_5 : List G := [⟨(some 11), .mv (.t 5), none⟩,
  ⟨(some 12), .bin .add (.t 11) (.c (.int .i64 (1))), none⟩,
  ⟨(some 5), .mv (.t 12), none⟩]
def d80_5 : Option (List (List Nat)) := none
def l80_5 : List Nat := []
theorem cd80_5 : dOk d80_5 g80_5 l80_5 = true := by kernel_rfl
def g80_6 : List G := [⟨(some 4), .mv (.c (.int .i64 (-1))), none⟩]
def d80_6 : Option (List (List Nat)) := none
def l80_6 : List Nat := []
theorem cd80_6 : dOk d80_6 g80_6 l80_6 = true := by kernel_rfl
def c80 : AC := (.seq (.reg d80_0 g80_0) (.seq (.seq (.reg d80_1 g80_1) (.block 0 (.loop (.seq (.seq (.reg d80_2 g80_2) (.cond (.t 10) .skip (.exit 0))) (.seq (.block 1 (.seq (.reg d80_3 g80_3) (.cond (.t 20) (.seq (.reg d80_4 g80_4) .ret) .skip))) (.reg d80_5 g80_5)))))) (.seq (.reg d80_6 g80_6) .ret)))
def r80 : List RV := [.tmp 4]
theorem cc80 : (Try.f80.body.bind (cCode Try.prog Try.f80.ntmps)) = some c80 := by kernel_rfl
theorem cr80 : cRes Try.prog Try.f80.results.toList = some r80 := by kernel_rfl
theorem ca80 : callable Try.prog 80 = true := by kernel_rfl
-- 81 (pinfold/mark.signs).list
def g81_0 : List G := [⟨(some 2), .mv (.c (.nils 1)), none⟩]
def d81_0 : Option (List (List Nat)) := none
def l81_0 : List Nat := []
theorem cd81_0 : dOk d81_0 g81_0 l81_0 = true := by kernel_rfl
def g81_1 : List G := [⟨(some 3), .mv (.c (.nils 1)), none⟩]
def d81_1 : Option (List (List Nat)) := none
def l81_1 : List Nat := []
theorem cd81_1 : dOk d81_1 g81_1 l81_1 = true := by kernel_rfl
def g81_2 : List G := [⟨(some 5), .mv (.c (.int .i64 (0))), none⟩]
def d81_2 : Option (List (List Nat)) := none
def l81_2 : List Nat := []
theorem cd81_2 : dOk d81_2 g81_2 l81_2 = true := by kernel_rfl
def g81_3 : List G := [⟨(some 6), .bin .lss (.t 5) (.c (.int .i64 (5))), none⟩]
def d81_3 : Option (List (List Nat)) := none
def l81_3 : List Nat := []
theorem cd81_3 : dOk d81_3 g81_3 l81_3 = true := by kernel_rfl
def g81_4 : List G := [⟨(some 7), .mv (.t 5), none⟩,
  ⟨(some 4), .mv (.t 7), none⟩]
def d81_4 : Option (List (List Nat)) := none
def l81_4 : List Nat := []
theorem cd81_4 : dOk d81_4 g81_4 l81_4 = true := by kernel_rfl
def g81_5 : List G := [⟨(some 8), .mv (.t 0), none⟩,
  ⟨(some 9), .mv (.t 4), none⟩,
  ⟨(some 10), .call 110 [(.t 8), (.t 9)], none⟩]
def d81_5 : Option (List (List Nat)) := none
def l81_5 : List Nat := []
theorem cd81_5 : dOk d81_5 g81_5 l81_5 = true := by kernel_rfl
def g81_6 : List G := [⟨(some 11), .mv (.t 3), none⟩,
  ⟨(some 12), .mv (.t 4), none⟩,
  ⟨(some 13), .bs 1 [(.t 12)], none⟩,
  ⟨(some 14), .app 3 1 8 (.int .i64 (0)) (.t 11) (.t 13), none⟩,
  ⟨(some 3), .mv (.t 14), none⟩]
def d81_6 : Option (List (List Nat)) := none
def l81_6 : List Nat := []
theorem cd81_6 : dOk d81_6 g81_6 l81_6 = true := by kernel_rfl
def g81_7 : List G := [⟨(some 15), .bin .add (.t 5) (.c (.int .i64 (1))), none⟩,
  ⟨(some 5), .mv (.t 15), none⟩]
def d81_7 : Option (List (List Nat)) := none
def l81_7 : List Nat := []
theorem cd81_7 : dOk d81_7 g81_7 l81_7 = true := by kernel_rfl
def g81_8 : List G := [⟨(some 16), .mv (.t 3), none⟩,
  ⟨(some 2), .mv (.t 16), none⟩]
def d81_8 : Option (List (List Nat)) := none
def l81_8 : List Nat := []
theorem cd81_8 : dOk d81_8 g81_8 l81_8 = true := by kernel_rfl
def c81 : AC := (.seq (.reg d81_0 g81_0) (.seq (.reg d81_1 g81_1) (.seq (.seq (.reg d81_2 g81_2) (.block 0 (.loop (.seq (.reg d81_3 g81_3) (.seq (.cond (.t 6) .skip (.exit 0)) (.seq (.block 1 (.seq (.reg d81_4 g81_4) (.seq (.reg d81_5 g81_5) (.cond (.t 10) (.reg d81_6 g81_6) .skip)))) (.reg d81_7 g81_7))))))) (.seq (.reg d81_8 g81_8) .ret))))
def r81 : List RV := [.tmp 2]
theorem cc81 : (Try.f81.body.bind (cCode Try.prog Try.f81.ntmps)) = some c81 := by kernel_rfl
theorem cr81 : cRes Try.prog Try.f81.results.toList = some r81 := by kernel_rfl
theorem ca81 : callable Try.prog 81 = true := by kernel_rfl
-- 82 pinfold/pinfoldlaw01.book
def g82_0 : List G := [⟨(some 0), .alloc (.agg [.agg [.int .i64 (0), .int .i64 (0), .int .i64 (0), .int .i64 (0), .int .i64 (0)], .int .i64 (0), .nils 7]), none⟩]
def d82_0 : Option (List (List Nat)) := none
def l82_0 : List Nat := []
theorem cd82_0 : dOk d82_0 g82_0 l82_0 = true := by kernel_rfl
def g82_1 : List G := [⟨(some 1), .bld [.int .i64 (0), .int .i64 (0), .int .i64 (0), .int .i64 (0), .int .i64 (0)] [(0, (.c (.int .i64 (1)))), (1, (.c (.int .i64 (3)))), (2, (.c (.int .i64 (4)))), (3, (.c (.int .i64 (24)))), (4, (.c (.int .i64 (24))))], none⟩,
  ⟨(some 2), .bld [.int .i64 (0), .agg [.int .i64 (0), .int .i64 (0), .int .i64 (0), .int .i64 (0), .int .i64 (0), .int .i64 (0)]] [(0, (.c (.int .i64 (1))))], none⟩,
  ⟨(some 3), .bld [.int .i64 (0), .int .i64 (0), .int .i64 (0), .int .i64 (0), .int .i64 (0), .int .i64 (0)] [(0, (.c (.int .i64 (2)))), (1, (.c (.int .i64 (0)))), (2, (.c (.int .i64 (0)))), (3, (.c (.int .i64 (0)))), (4, (.c (.int .i64 (0)))), (5, (.c (.int .i64 (0))))], none⟩,
  ⟨(some 4), .bld [.int .i64 (0), .agg [.int .i64 (0), .int .i64 (0), .int .i64 (0), .int .i64 (0), .int .i64 (0), .int .i64 (0)]] [(0, (.c (.int .i64 (2)))), (1, (.t 3))], none⟩,
  ⟨(some 5), .bld [.int .i64 (0), .int .i64 (0), .int .i64 (0), .int .i64 (0), .int .i64 (0), .int .i64 (0)] [(0, (.c (.int .i64 (3)))), (1, (.c (.int .i64 (0)))), (2, (.c (.int .i64 (0)))), (3, (.c (.int .i64 (0)))), (4, (.c (.int .i64 (0)))), (5, (.c (.int .i64 (2))))], none⟩,
  ⟨(some 6), .bld [.int .i64 (0), .agg [.int .i64 (0), .int .i64 (0), .int .i64 (0), .int .i64 (0), .int .i64 (0), .int .i64 (0)]] [(0, (.c (.int .i64 (3)))), (1, (.t 5))], none⟩,
  ⟨(some 7), .bs 7 [(.t 2), (.t 4), (.t 6)], none⟩,
  ⟨(some 8), .bld [.agg [.int .i64 (0), .int .i64 (0), .int .i64 (0), .int .i64 (0), .int .i64 (0)], .int .i64 (0), .nils 7] [(0, (.t 1)), (2, (.t 7))], none⟩,
  ⟨none, .st (some 7) (.t 0) (.t 8), none⟩]
def d82_1 : Option (List (List Nat)) := none
def l82_1 : List Nat := []
theorem cd82_1 : dOk d82_1 g82_1 l82_1 = true := by kernel_rfl
def c82 : AC := (.seq (.reg d82_0 g82_0) (.seq (.reg d82_1 g82_1) .ret))
def r82 : List RV := [.cell 0 (some 7)]
theorem cc82 : (Try.f82.body.bind (cCode Try.prog Try.f82.ntmps)) = some c82 := by kernel_rfl
theorem cr82 : cRes Try.prog Try.f82.results.toList = some r82 := by kernel_rfl
theorem ca82 : callable Try.prog 82 = true := by kernel_rfl
-- 83 pinfold/pinfoldref01.near
def g83_0 : List G := [⟨(some 2), .box (.t 0), none⟩,
  ⟨(some 3), .box (.t 1), none⟩,
  ⟨(some 4), .mv (.c (.bool false)), none⟩]
def d83_0 : Option (List (List Nat)) := none
def l83_0 : List Nat := []
theorem cd83_0 : dOk d83_0 g83_0 l83_0 = true := by kernel_rfl
def g83_1 : List G := [⟨(some 5), .mv (.c (.int .i64 (0))), none⟩]
def d83_1 : Option (List (List Nat)) := none
def l83_1 : List Nat := []
theorem cd83_1 : dOk d83_1 g83_1 l83_1 = true := by kernel_rfl
def g83_2 : List G := [⟨(some 6), .mv (.t 5), none⟩,
  ⟨(some 7), .fa 2 6 (.t 2), none⟩,
  ⟨(some 8), .ld none (.t 7), none⟩,
  ⟨(some 9), .len (.t 8), none⟩,
  ⟨(some 10), .bin .lss (.t 6) (.t 9), none⟩]
def d83_2 : Option (List (List Nat)) := none
def l83_2 : List Nat := []
theorem cd83_2 : dOk d83_2 g83_2 l83_2 = true := by kernel_rfl
def g83_3 : List G := [⟨(some 13), .fa 0 0 (.t 2), none⟩,
  ⟨(some 14), .ld (some 5) (.t 13), none⟩,
  ⟨(some 15), .fa 2 6 (.t 2), none⟩,
  ⟨(some 16), .ld none (.t 15), none⟩,
  ⟨(some 17), .mv (.t 5), none⟩,
  ⟨(some 18), .is 7 (.t 16) (.t 17), none⟩,
  ⟨(some 19), .fa 1 1 (.t 18), none⟩,
  ⟨(some 20), .ld (some 6) (.t 19), none⟩,
  ⟨(some 21), .ld (some 6) (.t 3), none⟩,
  ⟨(some 22), .call 99 [(.t 14), (.t 20), (.t 21)], none⟩,
  ⟨(some 23), .fa 1 5 (.t 2), none⟩,
  ⟨(some 24), .ld none (.t 23), none⟩,
  ⟨(some 25), .bin .mul (.c (.int .i64 (2))) (.t 24), none⟩,
  ⟨(some 26), .bin .leq (.t 22) (.t 25), none⟩]
def d83_3 : Option (List (List Nat)) := (some [[], [0], [], [2], [], [3, 4], [5], [6], [], [1, 7, 8], [], [10], [11], [9, 12]])
def l83_3 : List Nat := [0, 1, 0, 4, 0, 28, 60, 124, 0, 511, 0, 1024, 3072, 8191]
theorem cd83_3 : dOk d83_3 g83_3 l83_3 = true := by kernel_rfl
def g83_4 : List G := [⟨(some 4), .mv (.c (.bool true)), none⟩]
def d83_4 : Option (List (List Nat)) := none
def l83_4 : List Nat := []
theorem cd83_4 : dOk d83_4 g83_4 l83_4 = true := by kernel_rfl
def g83_5 : List G := [⟨(some 11), .mv (.t 5), none⟩,
  ⟨(some 12), .bin .add (.t 11) (.c (.int .i64 (1))), none⟩,
  ⟨(some 5), .mv (.t 12), none⟩]
def d83_5 : Option (List (List Nat)) := none
def l83_5 : List Nat := []
theorem cd83_5 : dOk d83_5 g83_5 l83_5 = true := by kernel_rfl
def g83_6 : List G := [⟨(some 4), .mv (.c (.bool false)), none⟩]
def d83_6 : Option (List (List Nat)) := none
def l83_6 : List Nat := []
theorem cd83_6 : dOk d83_6 g83_6 l83_6 = true := by kernel_rfl
def c83 : AC := (.seq (.reg d83_0 g83_0) (.seq (.seq (.reg d83_1 g83_1) (.block 0 (.loop (.seq (.seq (.reg d83_2 g83_2) (.cond (.t 10) .skip (.exit 0))) (.seq (.block 1 (.seq (.reg d83_3 g83_3) (.cond (.t 26) (.seq (.reg d83_4 g83_4) .ret) .skip))) (.reg d83_5 g83_5)))))) (.seq (.reg d83_6 g83_6) .ret)))
def r83 : List RV := [.tmp 4]
theorem cc83 : (Try.f83.body.bind (cCode Try.prog Try.f83.ntmps)) = some c83 := by kernel_rfl
theorem cr83 : cRes Try.prog Try.f83.results.toList = some r83 := by kernel_rfl
theorem ca83 : callable Try.prog 83 = true := by kernel_rfl
-- 84 pinfold/pinfoldref01.owners
def g84_0 : List G := [⟨(some 2), .box (.t 0), none⟩,
  ⟨(some 3), .box (.t 1), none⟩,
  ⟨(some 4), .mv (.c (.nils 1)), none⟩]
def d84_0 : Option (List (List Nat)) := none
def l84_0 : List Nat := []
theorem cd84_0 : dOk d84_0 g84_0 l84_0 = true := by kernel_rfl
def g84_1 : List G := [⟨(some 5), .mv (.c (.nils 1)), none⟩]
def d84_1 : Option (List (List Nat)) := none
def l84_1 : List Nat := []
theorem cd84_1 : dOk d84_1 g84_1 l84_1 = true := by kernel_rfl
def g84_2 : List G := [⟨(some 6), .mv (.c (.int .i64 (0))), none⟩]
def d84_2 : Option (List (List Nat)) := none
def l84_2 : List Nat := []
theorem cd84_2 : dOk d84_2 g84_2 l84_2 = true := by kernel_rfl
def g84_3 : List G := [⟨(some 7), .mv (.t 6), none⟩,
  ⟨(some 8), .fa 2 6 (.t 2), none⟩,
  ⟨(some 9), .ld none (.t 8), none⟩,
  ⟨(some 10), .len (.t 9), none⟩,
  ⟨(some 11), .bin .lss (.t 7) (.t 10), none⟩]
def d84_3 : Option (List (List Nat)) := none
def l84_3 : List Nat := []
theorem cd84_3 : dOk d84_3 g84_3 l84_3 = true := by kernel_rfl
def g84_4 : List G := [⟨(some 14), .fa 0 0 (.t 2), none⟩,
  ⟨(some 15), .ld (some 5) (.t 14), none⟩,
  ⟨(some 16), .fa 2 6 (.t 2), none⟩,
  ⟨(some 17), .ld none (.t 16), none⟩,
  ⟨(some 18), .mv (.t 6), none⟩,
  ⟨(some 19), .is 7 (.t 17) (.t 18), none⟩,
  ⟨(some 20), .fa 1 1 (.t 19), none⟩,
  ⟨(some 21), .ld (some 6) (.t 20), none⟩,
  ⟨(some 22), .ld (some 6) (.t 3), none⟩,
  ⟨(some 23), .call 86 [(.t 15), (.t 21), (.t 22)], none⟩,
  ⟨(some 24), .fa 1 5 (.t 2), none⟩,
  ⟨(some 25), .ld none (.t 24), none⟩,
  ⟨(some 26), .bin .leq (.t 23) (.t 25), none⟩]
def d84_4 : Option (List (List Nat)) := (some [[], [0], [], [2], [], [3, 4], [5], [6], [], [1, 7, 8], [], [10], [9, 11]])
def l84_4 : List Nat := [0, 1, 0, 4, 0, 28, 60, 124, 0, 511, 0, 1024, 4095]
theorem cd84_4 : dOk d84_4 g84_4 l84_4 = true := by kernel_rfl
def g84_5 : List G := [⟨(some 27), .mv (.t 5), none⟩,
  ⟨(some 28), .fa 2 6 (.t 2), none⟩,
  ⟨(some 29), .ld none (.t 28), none⟩,
  ⟨(some 30), .mv (.t 6), none⟩,
  ⟨(some 31), .is 7 (.t 29) (.t 30), none⟩,
  ⟨(some 32), .fa 0 0 (.t 31), none⟩,
  ⟨(some 33), .ld none (.t 32), none⟩,
  ⟨(some 34), .bs 1 [(.t 33)], none⟩,
  ⟨(some 35), .app 3 1 8 (.int .i64 (0)) (.t 27) (.t 34), none⟩,
  ⟨(some 5), .mv (.t 35), none⟩]
def d84_5 : Option (List (List Nat)) := none
def l84_5 : List Nat := []
theorem cd84_5 : dOk d84_5 g84_5 l84_5 = true := by kernel_rfl
def g84_6 : List G := [⟨(some 12), .mv (.t 6), none⟩,
  ⟨(some 13), .bin .add (.t 12) (.c (.int .i64 (1))), none⟩,
  ⟨(some 6), .mv (.t 13), none⟩]
def d84_6 : Option (List (List Nat)) := none
def l84_6 : List Nat := []
theorem cd84_6 : dOk d84_6 g84_6 l84_6 = true := by kernel_rfl
def g84_7 : List G := [⟨(some 36), .mv (.t 5), none⟩,
  ⟨(some 4), .mv (.t 36), none⟩]
def d84_7 : Option (List (List Nat)) := none
def l84_7 : List Nat := []
theorem cd84_7 : dOk d84_7 g84_7 l84_7 = true := by kernel_rfl
def c84 : AC := (.seq (.reg d84_0 g84_0) (.seq (.reg d84_1 g84_1) (.seq (.seq (.reg d84_2 g84_2) (.block 0 (.loop (.seq (.seq (.reg d84_3 g84_3) (.cond (.t 11) .skip (.exit 0))) (.seq (.block 1 (.seq (.reg d84_4 g84_4) (.cond (.t 26) (.reg d84_5 g84_5) .skip))) (.reg d84_6 g84_6)))))) (.seq (.reg d84_7 g84_7) .ret))))
def r84 : List RV := [.tmp 4]
theorem cc84 : (Try.f84.body.bind (cCode Try.prog Try.f84.ntmps)) = some c84 := by kernel_rfl
theorem cr84 : cRes Try.prog Try.f84.results.toList = some r84 := by kernel_rfl
theorem ca84 : callable Try.prog 84 = true := by kernel_rfl
-- 85 slices.Clone[[]pinfold/api.Given,pinfold/api.Given]
def g85_0 : List G := [⟨(some 2), .mv (.c (.nils 7)), none⟩]
def d85_0 : Option (List (List Nat)) := none
def l85_0 : List Nat := []
theorem cd85_0 : dOk d85_0 g85_0 l85_0 = true := by kernel_rfl
def g85_1 : List G := [⟨(some 3), .mv (.t 0), none⟩,
  ⟨(some 4), .nilS false (.t 3), none⟩]
def d85_1 : Option (List (List Nat)) := none
def l85_1 : List Nat := []
theorem cd85_1 : dOk d85_1 g85_1 l85_1 = true := by kernel_rfl
def g85_2 : List G := [⟨(some 2), .mv (.c (.nils 7)), none⟩]
def d85_2 : Option (List (List Nat)) := none
def l85_2 : List Nat := []
theorem cd85_2 : dOk d85_2 g85_2 l85_2 = true := by kernel_rfl
def g85_3 : List G := [⟨(some 5), .bs0 7, none⟩,
  ⟨(some 6), .mv (.t 0), none⟩,
  ⟨(some 7), .app 43 7 56 (.agg [.int .i64 (0), .agg [.int .i64 (0), .int .i64 (0), .int .i64 (0), .int .i64 (0), .int .i64 (0), .int .i64 (0)]]) (.t 5) (.t 6), none⟩,
  ⟨(some 2), .mv (.t 7), none⟩]
def d85_3 : Option (List (List Nat)) := none
def l85_3 : List Nat := []
theorem cd85_3 : dOk d85_3 g85_3 l85_3 = true := by kernel_rfl
def c85 : AC := (.seq (.reg d85_0 g85_0) (.seq (.seq (.reg d85_1 g85_1) (.cond (.t 4) (.seq (.reg d85_2 g85_2) .ret) .skip)) (.seq (.reg d85_3 g85_3) .ret)))
def r85 : List RV := [.tmp 2]
theorem cc85 : (Try.f85.body.bind (cCode Try.prog Try.f85.ntmps)) = some c85 := by kernel_rfl
theorem cr85 : cRes Try.prog Try.f85.results.toList = some r85 := by kernel_rfl
theorem ca85 : callable Try.prog 85 = true := by kernel_rfl
-- 86 pinfold/pinfoldref01.cost
def g86_0 : List G := [⟨(some 3), .box (.t 0), none⟩,
  ⟨(some 4), .box (.t 1), none⟩,
  ⟨(some 5), .box (.t 2), none⟩,
  ⟨(some 6), .mv (.c (.int .i64 (0))), none⟩]
def d86_0 : Option (List (List Nat)) := none
def l86_0 : List Nat := []
theorem cd86_0 : dOk d86_0 g86_0 l86_0 = true := by kernel_rfl
def g86_1 : List G := [⟨(some 7), .mv (.c (.int .i64 (0))), none⟩]
def d86_1 : Option (List (List Nat)) := none
def l86_1 : List Nat := []
theorem cd86_1 : dOk d86_1 g86_1 l86_1 = true := by kernel_rfl
def g86_2 : List G := [⟨(some 8), .mv (.c (.int .i64 (0))), none⟩]
def d86_2 : Option (List (List Nat)) := none
def l86_2 : List Nat := []
theorem cd86_2 : dOk d86_2 g86_2 l86_2 = true := by kernel_rfl
def g86_3 : List G := [⟨(some 9), .mv (.t 8), none⟩,
  ⟨(some 10), .bin .lss (.t 9) (.c (.int .i64 (6))), none⟩]
def d86_3 : Option (List (List Nat)) := none
def l86_3 : List Nat := []
theorem cd86_3 : dOk d86_3 g86_3 l86_3 = true := by kernel_rfl
def g86_4 : List G := [⟨(some 13), .mv (.t 8), none⟩,
  ⟨(some 14), .ia 6 1 (.t 4) (.t 13), none⟩,
  ⟨(some 15), .ld none (.t 14), none⟩,
  ⟨(some 16), .ia 5 1 (.t 3) (.t 15), none⟩,
  ⟨(some 17), .ld none (.t 16), none⟩,
  ⟨(some 18), .mv (.t 8), none⟩,
  ⟨(some 19), .ia 6 1 (.t 5) (.t 18), none⟩,
  ⟨(some 20), .ld none (.t 19), none⟩,
  ⟨(some 21), .bin .and (.t 17) (.t 20), none⟩,
  ⟨(some 22), .bin .eql (.t 21) (.c (.int .i64 (0))), none⟩]
def d86_4 : Option (List (List Nat)) := (some [[], [0], [1], [2], [3], [], [5], [6], [4, 7], [8]])
def l86_4 : List Nat := [0, 1, 3, 7, 15, 0, 32, 96, 255, 511]
theorem cd86_4 : dOk d86_4 g86_4 l86_4 = true := by kernel_rfl
def g86_5 : List G := [⟨(some 23), .mv (.t 7), none⟩,
  ⟨(some 24), .bin .add (.t 23) (.c (.int .i64 (1))), none⟩,
  ⟨(some 7), .mv (.t 24), none⟩]
def d86_5 : Option (List (List Nat)) := none
def l86_5 : List Nat := []
theorem cd86_5 : dOk d86_5 g86_5 l86_5 = true := by kernel_rfl
def g86_6 : List G := [⟨(some 11), .mv (.t 8), none⟩,
  ⟨(some 12), .bin .add (.t 11) (.c (.int .i64 (1))), none⟩,
  ⟨(some 8), .mv (.t 12), none⟩]
def d86_6 : Option (List (List Nat)) := none
def l86_6 : List Nat := []
theorem cd86_6 : dOk d86_6 g86_6 l86_6 = true := by kernel_rfl
def g86_7 : List G := [⟨(some 25), .mv (.t 7), none⟩,
  ⟨(some 6), .mv (.t 25), none⟩]
def d86_7 : Option (List (List Nat)) := none
def l86_7 : List Nat := []
theorem cd86_7 : dOk d86_7 g86_7 l86_7 = true := by kernel_rfl
def c86 : AC := (.seq (.reg d86_0 g86_0) (.seq (.reg d86_1 g86_1) (.seq (.seq (.reg d86_2 g86_2) (.block 0 (.loop (.seq (.seq (.reg d86_3 g86_3) (.cond (.t 10) .skip (.exit 0))) (.seq (.block 1 (.seq (.reg d86_4 g86_4) (.cond (.t 22) (.reg d86_5 g86_5) .skip))) (.reg d86_6 g86_6)))))) (.seq (.reg d86_7 g86_7) .ret))))
def r86 : List RV := [.tmp 6]
theorem cc86 : (Try.f86.body.bind (cCode Try.prog Try.f86.ntmps)) = some c86 := by kernel_rfl
theorem cr86 : cRes Try.prog Try.f86.results.toList = some r86 := by kernel_rfl
theorem ca86 : callable Try.prog 86 = true := by kernel_rfl
-- 87 pinfold/mark.distance
def g87_0 : List G := [⟨(some 3), .box (.t 0), none⟩,
  ⟨(some 4), .box (.t 1), none⟩,
  ⟨(some 5), .box (.t 2), none⟩,
  ⟨(some 6), .mv (.c (.int .i64 (0))), none⟩]
def d87_0 : Option (List (List Nat)) := none
def l87_0 : List Nat := []
theorem cd87_0 : dOk d87_0 g87_0 l87_0 = true := by kernel_rfl
def g87_1 : List G := [⟨(some 7), .alloc (.nilf), none⟩,
  ⟨none, .st none (.t 7) (.c (.func 78 [])), none⟩]
def d87_1 : Option (List (List Nat)) := none
def l87_1 : List Nat := []
theorem cd87_1 : dOk d87_1 g87_1 l87_1 = true := by kernel_rfl
def g87_2 : List G := [⟨(some 8), .mk 112 [(.t 7), (.t 3), (.t 4), (.t 5)], none⟩,
  ⟨(some 9), .call 111 [(.t 8)], none⟩,
  ⟨(some 6), .mv (.t 9), none⟩]
def d87_2 : Option (List (List Nat)) := none
def l87_2 : List Nat := []
theorem cd87_2 : dOk d87_2 g87_2 l87_2 = true := by kernel_rfl
def c87 : AC := (.seq (.reg d87_0 g87_0) (.seq (.reg d87_1 g87_1) (.seq (.reg d87_2 g87_2) .ret)))
def r87 : List RV := [.tmp 6]
theorem cc87 : (Try.f87.body.bind (cCode Try.prog Try.f87.ntmps)) = some c87 := by kernel_rfl
theorem cr87 : cRes Try.prog Try.f87.results.toList = some r87 := by kernel_rfl
theorem ca87 : callable Try.prog 87 = true := by kernel_rfl
-- 88 pinfold/mark.cost
def g88_0 : List G := [⟨(some 3), .box (.t 0), none⟩,
  ⟨(some 4), .box (.t 1), none⟩,
  ⟨(some 5), .box (.t 2), none⟩,
  ⟨(some 6), .mv (.c (.int .i64 (0))), none⟩]
def d88_0 : Option (List (List Nat)) := none
def l88_0 : List Nat := []
theorem cd88_0 : dOk d88_0 g88_0 l88_0 = true := by kernel_rfl
def g88_1 : List G := [⟨(some 7), .alloc (.nilf), none⟩,
  ⟨none, .st none (.t 7) (.c (.func 78 [])), none⟩]
def d88_1 : Option (List (List Nat)) := none
def l88_1 : List Nat := []
theorem cd88_1 : dOk d88_1 g88_1 l88_1 = true := by kernel_rfl
def g88_2 : List G := [⟨(some 8), .mk 113 [(.t 7), (.t 3), (.t 4), (.t 5)], none⟩,
  ⟨(some 9), .call 111 [(.t 8)], none⟩,
  ⟨(some 6), .mv (.t 9), none⟩]
def d88_2 : Option (List (List Nat)) := none
def l88_2 : List Nat := []
theorem cd88_2 : dOk d88_2 g88_2 l88_2 = true := by kernel_rfl
def c88 : AC := (.seq (.reg d88_0 g88_0) (.seq (.reg d88_1 g88_1) (.seq (.reg d88_2 g88_2) .ret)))
def r88 : List RV := [.tmp 6]
theorem cc88 : (Try.f88.body.bind (cCode Try.prog Try.f88.ntmps)) = some c88 := by kernel_rfl
theorem cr88 : cRes Try.prog Try.f88.results.toList = some r88 := by kernel_rfl
theorem ca88 : callable Try.prog 88 = true := by kernel_rfl
-- 89 pinfold/mark.within
def g89_0 : List G := [⟨(some 6), .mv (.c (.bool false)), none⟩]
def d89_0 : Option (List (List Nat)) := none
def l89_0 : List Nat := []
theorem cd89_0 : dOk d89_0 g89_0 l89_0 = true := by kernel_rfl
def g89_1 : List G := [⟨(some 7), .mv (.t 1), none⟩,
  ⟨(some 8), .mv (.t 0), none⟩,
  ⟨(some 9), .bin .leq (.t 7) (.t 8), none⟩,
  ⟨(some 10), .mv (.t 9), none⟩,
  ⟨(some 11), .mv (.t 0), some (10, true)⟩,
  ⟨(some 12), .mv (.t 2), some (10, true)⟩,
  ⟨(some 13), .bin .leq (.t 11) (.t 12), some (10, true)⟩,
  ⟨(some 14), .pick (.t 10) (.t 13) (.c (.bool false)), none⟩,
  ⟨(some 6), .mv (.t 14), none⟩]
def d89_1 : Option (List (List Nat)) := none
def l89_1 : List Nat := []
theorem cd89_1 : dOk d89_1 g89_1 l89_1 = true := by kernel_rfl
def c89 : AC := (.seq (.reg d89_0 g89_0) (.seq (.reg d89_1 g89_1) .ret))
def r89 : List RV := [.tmp 6]
theorem cc89 : (Try.f89.body.bind (cCode Try.prog Try.f89.ntmps)) = some c89 := by kernel_rfl
theorem cr89 : cRes Try.prog Try.f89.results.toList = some r89 := by kernel_rfl
theorem ca89 : callable Try.prog 89 = true := by kernel_rfl
-- 90 pinfold/mark.asked
def g90_0 : List G := [⟨(some 2), .box (.t 0), none⟩,
  ⟨(some 4), .mv (.c (.int .i64 (0))), none⟩]
def d90_0 : Option (List (List Nat)) := none
def l90_0 : List Nat := []
theorem cd90_0 : dOk d90_0 g90_0 l90_0 = true := by kernel_rfl
def g90_1 : List G := [⟨(some 6), .ld (some 7) (.t 2), none⟩,
  ⟨(some 7), .call 47 [(.t 6)], none⟩,
  ⟨(some 5), .mv (.t 7), none⟩]
def d90_1 : Option (List (List Nat)) := none
def l90_1 : List Nat := []
theorem cd90_1 : dOk d90_1 g90_1 l90_1 = true := by kernel_rfl
def g90_2 : List G := [⟨(some 8), .mv (.t 5), none⟩,
  ⟨(some 9), .bin .neq (.t 8) (.c (.int .i64 (0))), none⟩]
def d90_2 : Option (List (List Nat)) := none
def l90_2 : List Nat := []
theorem cd90_2 : dOk d90_2 g90_2 l90_2 = true := by kernel_rfl
def g90_3 : List G := [⟨(some 10), .mv (.t 5), none⟩,
  ⟨(some 4), .mv (.t 10), none⟩]
def d90_3 : Option (List (List Nat)) := none
def l90_3 : List Nat := []
theorem cd90_3 : dOk d90_3 g90_3 l90_3 = true := by kernel_rfl
def g90_4 : List G := [⟨(some 11), .mv (.t 1), none⟩,
  ⟨(some 12), .call 97 [(.t 11)], none⟩,
  ⟨(some 13), .un .not (.t 12), none⟩]
def d90_4 : Option (List (List Nat)) := none
def l90_4 : List Nat := []
theorem cd90_4 : dOk d90_4 g90_4 l90_4 = true := by kernel_rfl
def g90_5 : List G := [⟨(some 4), .mv (.c (.int .i64 (15))), none⟩]
def d90_5 : Option (List (List Nat)) := none
def l90_5 : List Nat := []
theorem cd90_5 : dOk d90_5 g90_5 l90_5 = true := by kernel_rfl
def g90_6 : List G := [⟨(some 4), .mv (.c (.int .i64 (0))), none⟩]
def d90_6 : Option (List (List Nat)) := none
def l90_6 : List Nat := []
theorem cd90_6 : dOk d90_6 g90_6 l90_6 = true := by kernel_rfl
def c90 : AC := (.seq (.reg d90_0 g90_0) (.seq (.seq (.reg d90_1 g90_1) (.seq (.reg d90_2 g90_2) (.cond (.t 9) (.seq (.reg d90_3 g90_3) .ret) .skip))) (.seq (.seq (.reg d90_4 g90_4) (.cond (.t 13) (.seq (.reg d90_5 g90_5) .ret) .skip)) (.seq (.reg d90_6 g90_6) .ret))))
def r90 : List RV := [.tmp 4]
theorem cc90 : (Try.f90.body.bind (cCode Try.prog Try.f90.ntmps)) = some c90 := by kernel_rfl
theorem cr90 : cRes Try.prog Try.f90.results.toList = some r90 := by kernel_rfl
theorem ca90 : callable Try.prog 90 = true := by kernel_rfl
-- 91 pinfold/mark.find
def g91_0 : List G := [⟨(some 2), .box (.t 0), none⟩,
  ⟨(some 4), .mv (.c (.int .i64 (0))), none⟩,
  ⟨(some 5), .mv (.c (.bool false)), none⟩]
def d91_0 : Option (List (List Nat)) := none
def l91_0 : List Nat := []
theorem cd91_0 : dOk d91_0 g91_0 l91_0 = true := by kernel_rfl
def g91_1 : List G := [⟨(some 6), .fa 2 6 (.t 2), none⟩,
  ⟨(some 7), .ld none (.t 6), none⟩,
  ⟨(some 8), .mv (.t 1), none⟩,
  ⟨(some 9), .call 114 [(.t 7), (.t 8), (.c (.func 115 []))], none⟩,
  ⟨(some 10), .ext (.t 9) 0, none⟩,
  ⟨(some 11), .ext (.t 9) 1, none⟩,
  ⟨(some 4), .mv (.t 10), none⟩,
  ⟨(some 5), .mv (.t 11), none⟩]
def d91_1 : Option (List (List Nat)) := none
def l91_1 : List Nat := []
theorem cd91_1 : dOk d91_1 g91_1 l91_1 = true := by kernel_rfl
def c91 : AC := (.seq (.reg d91_0 g91_0) (.seq (.reg d91_1 g91_1) .ret))
def r91 : List RV := [.tmp 4, .tmp 5]
theorem cc91 : (Try.f91.body.bind (cCode Try.prog Try.f91.ntmps)) = some c91 := by kernel_rfl
theorem cr91 : cRes Try.prog Try.f91.results.toList = some r91 := by kernel_rfl
theorem ca91 : callable Try.prog 91 = true := by kernel_rfl
-- 92 pinfold/pinfoldref01.asked
def g92_0 : List G := [⟨(some 2), .box (.t 0), none⟩,
  ⟨(some 4), .mv (.c (.int .i64 (0))), none⟩]
def d92_0 : Option (List (List Nat)) := none
def l92_0 : List Nat := []
theorem cd92_0 : dOk d92_0 g92_0 l92_0 = true := by kernel_rfl
def g92_1 : List G := [⟨(some 5), .ld (some 7) (.t 2), none⟩,
  ⟨(some 6), .call 48 [(.t 5)], none⟩,
  ⟨(some 7), .bin .neq (.t 6) (.c (.int .i64 (0))), none⟩]
def d92_1 : Option (List (List Nat)) := none
def l92_1 : List Nat := []
theorem cd92_1 : dOk d92_1 g92_1 l92_1 = true := by kernel_rfl
def g92_2 : List G := [⟨(some 4), .mv (.c (.int .i64 (13))), none⟩]
def d92_2 : Option (List (List Nat)) := none
def l92_2 : List Nat := []
theorem cd92_2 : dOk d92_2 g92_2 l92_2 = true := by kernel_rfl
def g92_3 : List G := [⟨(some 8), .mv (.t 1), none⟩,
  ⟨(some 9), .call 94 [(.t 8), (.c (.int .i64 (1))), (.c (.int .i64 (99)))], none⟩,
  ⟨(some 10), .un .not (.t 9), none⟩]
def d92_3 : Option (List (List Nat)) := none
def l92_3 : List Nat := []
theorem cd92_3 : dOk d92_3 g92_3 l92_3 = true := by kernel_rfl
def g92_4 : List G := [⟨(some 4), .mv (.c (.int .i64 (15))), none⟩]
def d92_4 : Option (List (List Nat)) := none
def l92_4 : List Nat := []
theorem cd92_4 : dOk d92_4 g92_4 l92_4 = true := by kernel_rfl
def g92_5 : List G := [⟨(some 4), .mv (.c (.int .i64 (0))), none⟩]
def d92_5 : Option (List (List Nat)) := none
def l92_5 : List Nat := []
theorem cd92_5 : dOk d92_5 g92_5 l92_5 = true := by kernel_rfl
def c92 : AC := (.seq (.reg d92_0 g92_0) (.seq (.seq (.reg d92_1 g92_1) (.cond (.t 7) (.seq (.reg d92_2 g92_2) .ret) .skip)) (.seq (.seq (.reg d92_3 g92_3) (.cond (.t 10) (.seq (.reg d92_4 g92_4) .ret) .skip)) (.seq (.reg d92_5 g92_5) .ret))))
def r92 : List RV := [.tmp 4]
theorem cc92 : (Try.f92.body.bind (cCode Try.prog Try.f92.ntmps)) = some c92 := by kernel_rfl
theorem cr92 : cRes Try.prog Try.f92.results.toList = some r92 := by kernel_rfl
theorem ca92 : callable Try.prog 92 = true := by kernel_rfl
-- 93 pinfold/mark.isMark
def g93_0 : List G := [⟨(some 1), .box (.t 0), none⟩,
  ⟨(some 2), .mv (.c (.bool false)), none⟩]
def d93_0 : Option (List (List Nat)) := none
def l93_0 : List Nat := []
theorem cd93_0 : dOk d93_0 g93_0 l93_0 = true := by kernel_rfl
def g93_1 : List G := [⟨(some 3), .va 6 1 (.t 1), none⟩,
  ⟨(some 4), .call 75 [(.t 3), (.c (.func 116 []))], none⟩,
  ⟨(some 5), .un .not (.t 4), none⟩,
  ⟨(some 2), .mv (.t 5), none⟩]
def d93_1 : Option (List (List Nat)) := none
def l93_1 : List Nat := []
theorem cd93_1 : dOk d93_1 g93_1 l93_1 = true := by kernel_rfl
def c93 : AC := (.seq (.reg d93_0 g93_0) (.seq (.reg d93_1 g93_1) .ret))
def r93 : List RV := [.tmp 2]
theorem cc93 : (Try.f93.body.bind (cCode Try.prog Try.f93.ntmps)) = some c93 := by kernel_rfl
theorem cr93 : cRes Try.prog Try.f93.results.toList = some r93 := by kernel_rfl
theorem ca93 : callable Try.prog 93 = true := by kernel_rfl
-- 94 pinfold/pinfoldref01.In
def g94_0 : List G := [⟨(some 6), .mv (.c (.bool false)), none⟩]
def d94_0 : Option (List (List Nat)) := none
def l94_0 : List Nat := []
theorem cd94_0 : dOk d94_0 g94_0 l94_0 = true := by kernel_rfl
def g94_1 : List G := [⟨(some 7), .mv (.t 1), none⟩,
  ⟨(some 8), .mv (.t 0), none⟩,
  ⟨(some 9), .bin .leq (.t 7) (.t 8), none⟩,
  ⟨(some 10), .mv (.t 9), none⟩,
  ⟨(some 11), .mv (.t 0), some (10, true)⟩,
  ⟨(some 12), .mv (.t 2), some (10, true)⟩,
  ⟨(some 13), .bin .leq (.t 11) (.t 12), some (10, true)⟩,
  ⟨(some 14), .pick (.t 10) (.t 13) (.c (.bool false)), none⟩,
  ⟨(some 6), .mv (.t 14), none⟩]
def d94_1 : Option (List (List Nat)) := none
def l94_1 : List Nat := []
theorem cd94_1 : dOk d94_1 g94_1 l94_1 = true := by kernel_rfl
def c94 : AC := (.seq (.reg d94_0 g94_0) (.seq (.reg d94_1 g94_1) .ret))
def r94 : List RV := [.tmp 6]
theorem cc94 : (Try.f94.body.bind (cCode Try.prog Try.f94.ntmps)) = some c94 := by kernel_rfl
theorem cr94 : cRes Try.prog Try.f94.results.toList = some r94 := by kernel_rfl
theorem ca94 : callable Try.prog 94 = true := by kernel_rfl
-- 95 pinfold/mark.isWear
def g95_0 : List G := [⟨(some 1), .box (.t 0), none⟩,
  ⟨(some 2), .mv (.c (.bool false)), none⟩]
def d95_0 : Option (List (List Nat)) := none
def l95_0 : List Nat := []
theorem cd95_0 : dOk d95_0 g95_0 l95_0 = true := by kernel_rfl
def g95_1 : List G := [⟨(some 6), .ld (some 5) (.t 1), none⟩,
  ⟨(some 7), .mv (.c (.int .i64 (0))), none⟩]
def d95_1 : Option (List (List Nat)) := none
def l95_1 : List Nat := []
theorem cd95_1 : dOk d95_1 g95_1 l95_1 = true := by kernel_rfl
def g95_2 : List G := [⟨(some 8), .bin .lss (.t 7) (.c (.int .i64 (5))), none⟩]
def d95_2 : Option (List (List Nat)) := none
def l95_2 : List Nat := []
theorem cd95_2 : dOk d95_2 g95_2 l95_2 = true := by kernel_rfl
def g95_3 : List G := [⟨(some 9), .mv (.t 7), none⟩,
  ⟨(some 10), .ix 5 1 none (.t 6) (.t 7), none⟩,
  ⟨(some 3), .mv (.t 9), none⟩,
  ⟨(some 4), .mv (.t 10), none⟩]
def d95_3 : Option (List (List Nat)) := none
def l95_3 : List Nat := []
theorem cd95_3 : dOk d95_3 g95_3 l95_3 = true := by kernel_rfl
def g95_4 : List G := [⟨(some 11), .mv (.t 4), none⟩,
  ⟨(some 5), .mv (.t 11), none⟩]
def d95_4 : Option (List (List Nat)) := none
def l95_4 : List Nat := []
theorem cd95_4 : dOk d95_4 g95_4 l95_4 = true := by kernel_rfl
def g95_5 : List G := [⟨(some 12), .mv (.t 5), none⟩,
  ⟨(some 13), .call 117 [(.t 12)], none⟩,
  ⟨(some 14), .un .not (.t 13), none⟩,
  ⟨(some 15), .mv (.t 14), none⟩,
  ⟨(some 16), .mv (.t 5), some (15, false)⟩,
  ⟨(some 17), .mv (.t 3), some (15, false)⟩,
  ⟨(some 18), .call 110 [(.t 16), (.t 17)], some (15, false)⟩,
  ⟨(some 19), .un .not (.t 18), some (15, false)⟩,
  ⟨(some 20), .pick (.t 15) (.c (.bool true)) (.t 19), none⟩]
def d95_5 : Option (List (List Nat)) := none
def l95_5 : List Nat := []
theorem cd95_5 : dOk d95_5 g95_5 l95_5 = true := by kernel_rfl
def g95_6 : List G := [⟨(some 2), .mv (.c (.bool false)), none⟩]
def d95_6 : Option (List (List Nat)) := none
def l95_6 : List Nat := []
theorem cd95_6 : dOk d95_6 g95_6 l95_6 = true := by kernel_rfl
def g95_7 : List G := [⟨(some 21), .bin .add (.t 7) (.c (.int .i64 (1))), none⟩,
  ⟨(some 7), .mv (.t 21), none⟩]
def d95_7 : Option (List (List Nat)) := none
def l95_7 : List Nat := []
theorem cd95_7 : dOk d95_7 g95_7 l95_7 = true := by kernel_rfl
def g95_8 : List G := [⟨(some 2), .mv (.c (.bool true)), none⟩]
def d95_8 : Option (List (List Nat)) := none
def l95_8 : List Nat := []
theorem cd95_8 : dOk d95_8 g95_8 l95_8 = true := by kernel_rfl
def c95 : AC := (.seq (.reg d95_0 g95_0) (.seq (.seq (.reg d95_1 g95_1) (.block 0 (.loop (.seq (.reg d95_2 g95_2) (.seq (.cond (.t 8) .skip (.exit 0)) (.seq (.block 1 (.seq (.reg d95_3 g95_3) (.seq (.reg d95_4 g95_4) (.seq (.reg d95_5 g95_5) (.cond (.t 20) (.seq (.reg d95_6 g95_6) .ret) .skip))))) (.reg d95_7 g95_7))))))) (.seq (.reg d95_8 g95_8) .ret)))
def r95 : List RV := [.tmp 2]
theorem cc95 : (Try.f95.body.bind (cCode Try.prog Try.f95.ntmps)) = some c95 := by kernel_rfl
theorem cr95 : cRes Try.prog Try.f95.results.toList = some r95 := by kernel_rfl
theorem ca95 : callable Try.prog 95 = true := by kernel_rfl
-- 96 pinfold/mark.isReading
def g96_0 : List G := [⟨(some 1), .box (.t 0), none⟩,
  ⟨(some 2), .mv (.c (.bool false)), none⟩]
def d96_0 : Option (List (List Nat)) := none
def l96_0 : List Nat := []
theorem cd96_0 : dOk d96_0 g96_0 l96_0 = true := by kernel_rfl
def g96_1 : List G := [⟨(some 3), .va 6 1 (.t 1), none⟩,
  ⟨(some 4), .call 75 [(.t 3), (.c (.func 118 []))], none⟩,
  ⟨(some 5), .un .not (.t 4), none⟩,
  ⟨(some 2), .mv (.t 5), none⟩]
def d96_1 : Option (List (List Nat)) := none
def l96_1 : List Nat := []
theorem cd96_1 : dOk d96_1 g96_1 l96_1 = true := by kernel_rfl
def c96 : AC := (.seq (.reg d96_0 g96_0) (.seq (.reg d96_1 g96_1) .ret))
def r96 : List RV := [.tmp 2]
theorem cc96 : (Try.f96.body.bind (cCode Try.prog Try.f96.ntmps)) = some c96 := by kernel_rfl
theorem cr96 : cRes Try.prog Try.f96.results.toList = some r96 := by kernel_rfl
theorem ca96 : callable Try.prog 96 = true := by kernel_rfl
-- 97 pinfold/mark.isOwner
def g97_0 : List G := [⟨(some 2), .mv (.c (.bool false)), none⟩]
def d97_0 : Option (List (List Nat)) := none
def l97_0 : List Nat := []
theorem cd97_0 : dOk d97_0 g97_0 l97_0 = true := by kernel_rfl
def g97_1 : List G := [⟨(some 3), .mv (.t 0), none⟩,
  ⟨(some 4), .call 89 [(.t 3), (.c (.int .i64 (1))), (.c (.int .i64 (99)))], none⟩,
  ⟨(some 2), .mv (.t 4), none⟩]
def d97_1 : Option (List (List Nat)) := none
def l97_1 : List Nat := []
theorem cd97_1 : dOk d97_1 g97_1 l97_1 = true := by kernel_rfl
def c97 : AC := (.seq (.reg d97_0 g97_0) (.seq (.reg d97_1 g97_1) .ret))
def r97 : List RV := [.tmp 2]
theorem cc97 : (Try.f97.body.bind (cCode Try.prog Try.f97.ntmps)) = some c97 := by kernel_rfl
theorem cr97 : cRes Try.prog Try.f97.results.toList = some r97 := by kernel_rfl
theorem ca97 : callable Try.prog 97 = true := by kernel_rfl
-- 98 pinfold/mark.isApart
def g98_0 : List G := [⟨(some 3), .box (.t 0), none⟩,
  ⟨(some 5), .box (.t 2), none⟩,
  ⟨(some 6), .mv (.c (.bool false)), none⟩]
def d98_0 : Option (List (List Nat)) := none
def l98_0 : List Nat := []
theorem cd98_0 : dOk d98_0 g98_0 l98_0 = true := by kernel_rfl
def g98_1 : List G := [⟨(some 7), .mv (.t 1), none⟩,
  ⟨(some 8), .mk 120 [(.t 3), (.t 5)], none⟩,
  ⟨(some 9), .call 119 [(.t 7), (.t 8)], none⟩,
  ⟨(some 10), .un .not (.t 9), none⟩,
  ⟨(some 6), .mv (.t 10), none⟩]
def d98_1 : Option (List (List Nat)) := none
def l98_1 : List Nat := []
theorem cd98_1 : dOk d98_1 g98_1 l98_1 = true := by kernel_rfl
def c98 : AC := (.seq (.reg d98_0 g98_0) (.seq (.reg d98_1 g98_1) .ret))
def r98 : List RV := [.tmp 6]
theorem cc98 : (Try.f98.body.bind (cCode Try.prog Try.f98.ntmps)) = some c98 := by kernel_rfl
theorem cr98 : cRes Try.prog Try.f98.results.toList = some r98 := by kernel_rfl
theorem ca98 : callable Try.prog 98 = true := by kernel_rfl
-- 99 pinfold/pinfoldref01.distance
def g99_0 : List G := [⟨(some 3), .box (.t 0), none⟩,
  ⟨(some 4), .box (.t 1), none⟩,
  ⟨(some 5), .box (.t 2), none⟩,
  ⟨(some 6), .mv (.c (.int .i64 (0))), none⟩]
def d99_0 : Option (List (List Nat)) := none
def l99_0 : List Nat := []
theorem cd99_0 : dOk d99_0 g99_0 l99_0 = true := by kernel_rfl
def g99_1 : List G := [⟨(some 7), .mv (.c (.int .i64 (0))), none⟩]
def d99_1 : Option (List (List Nat)) := none
def l99_1 : List Nat := []
theorem cd99_1 : dOk d99_1 g99_1 l99_1 = true := by kernel_rfl
def g99_2 : List G := [⟨(some 8), .mv (.c (.int .i64 (0))), none⟩]
def d99_2 : Option (List (List Nat)) := none
def l99_2 : List Nat := []
theorem cd99_2 : dOk d99_2 g99_2 l99_2 = true := by kernel_rfl
def g99_3 : List G := [⟨(some 9), .mv (.t 8), none⟩,
  ⟨(some 10), .bin .lss (.t 9) (.c (.int .i64 (6))), none⟩]
def d99_3 : Option (List (List Nat)) := none
def l99_3 : List Nat := []
theorem cd99_3 : dOk d99_3 g99_3 l99_3 = true := by kernel_rfl
def g99_4 : List G := [⟨(some 13), .mv (.t 8), none⟩,
  ⟨(some 14), .ia 6 1 (.t 4) (.t 13), none⟩,
  ⟨(some 15), .ld none (.t 14), none⟩,
  ⟨(some 16), .ia 5 1 (.t 3) (.t 15), none⟩,
  ⟨(some 17), .ld none (.t 16), none⟩,
  ⟨(some 18), .mv (.t 8), none⟩,
  ⟨(some 19), .ia 6 1 (.t 5) (.t 18), none⟩,
  ⟨(some 20), .ld none (.t 19), none⟩,
  ⟨(some 21), .ia 5 1 (.t 3) (.t 20), none⟩,
  ⟨(some 22), .ld none (.t 21), none⟩,
  ⟨(some 23), .bin .and (.t 17) (.t 22), none⟩,
  ⟨(some 24), .bin .eql (.t 23) (.c (.int .i64 (0))), none⟩]
def d99_4 : Option (List (List Nat)) := (some [[], [0], [1], [2], [3], [], [5], [6], [7], [8], [4, 9], [10]])
def l99_4 : List Nat := [0, 1, 3, 7, 15, 0, 32, 96, 224, 480, 1023, 2047]
theorem cd99_4 : dOk d99_4 g99_4 l99_4 = true := by kernel_rfl
def g99_5 : List G := [⟨(some 25), .mv (.t 7), none⟩,
  ⟨(some 26), .bin .add (.t 25) (.c (.int .i64 (1))), none⟩,
  ⟨(some 7), .mv (.t 26), none⟩]
def d99_5 : Option (List (List Nat)) := none
def l99_5 : List Nat := []
theorem cd99_5 : dOk d99_5 g99_5 l99_5 = true := by kernel_rfl
def g99_6 : List G := [⟨(some 11), .mv (.t 8), none⟩,
  ⟨(some 12), .bin .add (.t 11) (.c (.int .i64 (1))), none⟩,
  ⟨(some 8), .mv (.t 12), none⟩]
def d99_6 : Option (List (List Nat)) := none
def l99_6 : List Nat := []
theorem cd99_6 : dOk d99_6 g99_6 l99_6 = true := by kernel_rfl
def g99_7 : List G := [⟨(some 27), .mv (.t 7), none⟩,
  ⟨(some 6), .mv (.t 27), none⟩]
def d99_7 : Option (List (List Nat)) := none
def l99_7 : List Nat := []
theorem cd99_7 : dOk d99_7 g99_7 l99_7 = true := by kernel_rfl
def c99 : AC := (.seq (.reg d99_0 g99_0) (.seq (.reg d99_1 g99_1) (.seq (.seq (.reg d99_2 g99_2) (.block 0 (.loop (.seq (.seq (.reg d99_3 g99_3) (.cond (.t 10) .skip (.exit 0))) (.seq (.block 1 (.seq (.reg d99_4 g99_4) (.cond (.t 24) (.reg d99_5 g99_5) .skip))) (.reg d99_6 g99_6)))))) (.seq (.reg d99_7 g99_7) .ret))))
def r99 : List RV := [.tmp 6]
theorem cc99 : (Try.f99.body.bind (cCode Try.prog Try.f99.ntmps)) = some c99 := by kernel_rfl
theorem cr99 : cRes Try.prog Try.f99.results.toList = some r99 := by kernel_rfl
theorem ca99 : callable Try.prog 99 = true := by kernel_rfl
-- 100 pinfold/pinfoldref01.Sharp
def g100_0 : List G := [⟨(some 1), .box (.t 0), none⟩,
  ⟨(some 2), .mv (.c (.bool false)), none⟩]
def d100_0 : Option (List (List Nat)) := none
def l100_0 : List Nat := []
theorem cd100_0 : dOk d100_0 g100_0 l100_0 = true := by kernel_rfl
def g100_1 : List G := [⟨(some 3), .mv (.c (.int .i64 (0))), none⟩]
def d100_1 : Option (List (List Nat)) := none
def l100_1 : List Nat := []
theorem cd100_1 : dOk d100_1 g100_1 l100_1 = true := by kernel_rfl
def g100_2 : List G := [⟨(some 4), .mv (.t 3), none⟩,
  ⟨(some 5), .bin .lss (.t 4) (.c (.int .i64 (6))), none⟩]
def d100_2 : Option (List (List Nat)) := none
def l100_2 : List Nat := []
theorem cd100_2 : dOk d100_2 g100_2 l100_2 = true := by kernel_rfl
def g100_3 : List G := [⟨(some 8), .mv (.t 3), none⟩,
  ⟨(some 9), .ia 6 1 (.t 1) (.t 8), none⟩,
  ⟨(some 10), .ld none (.t 9), none⟩,
  ⟨(some 11), .mv (.t 3), none⟩,
  ⟨(some 12), .ia 6 1 (.t 1) (.t 11), none⟩,
  ⟨(some 13), .ld none (.t 12), none⟩,
  ⟨(some 14), .bin .sub (.t 13) (.c (.int .i64 (1))), none⟩,
  ⟨(some 15), .bin .and (.t 10) (.t 14), none⟩,
  ⟨(some 16), .bin .neq (.t 15) (.c (.int .i64 (0))), none⟩]
def d100_3 : Option (List (List Nat)) := (some [[], [0], [1], [], [3], [4], [5], [2, 6], [7]])
def l100_3 : List Nat := [0, 1, 3, 0, 8, 24, 56, 127, 255]
theorem cd100_3 : dOk d100_3 g100_3 l100_3 = true := by kernel_rfl
def g100_4 : List G := [⟨(some 2), .mv (.c (.bool false)), none⟩]
def d100_4 : Option (List (List Nat)) := none
def l100_4 : List Nat := []
theorem cd100_4 : dOk d100_4 g100_4 l100_4 = true := by kernel_rfl
def g100_5 : List G := [⟨(some 6), .mv (.t 3), none⟩,
  ⟨(some 7), .bin .add (.t 6) (.c (.int .i64 (1))), none⟩,
  ⟨(some 3), .mv (.t 7), none⟩]
def d100_5 : Option (List (List Nat)) := none
def l100_5 : List Nat := []
theorem cd100_5 : dOk d100_5 g100_5 l100_5 = true := by kernel_rfl
def g100_6 : List G := [⟨(some 2), .mv (.c (.bool true)), none⟩]
def d100_6 : Option (List (List Nat)) := none
def l100_6 : List Nat := []
theorem cd100_6 : dOk d100_6 g100_6 l100_6 = true := by kernel_rfl
def c100 : AC := (.seq (.reg d100_0 g100_0) (.seq (.seq (.reg d100_1 g100_1) (.block 0 (.loop (.seq (.seq (.reg d100_2 g100_2) (.cond (.t 5) .skip (.exit 0))) (.seq (.block 1 (.seq (.reg d100_3 g100_3) (.cond (.t 16) (.seq (.reg d100_4 g100_4) .ret) .skip))) (.reg d100_5 g100_5)))))) (.seq (.reg d100_6 g100_6) .ret)))
def r100 : List RV := [.tmp 2]
theorem cc100 : (Try.f100.body.bind (cCode Try.prog Try.f100.ntmps)) = some c100 := by kernel_rfl
theorem cr100 : cRes Try.prog Try.f100.results.toList = some r100 := by kernel_rfl
theorem ca100 : callable Try.prog 100 = true := by kernel_rfl
-- 101 pinfold/mark.marks
def g101_0 : List G := [⟨(some 0), .mv (.c (.nilf)), none⟩]
def d101_0 : Option (List (List Nat)) := none
def l101_0 : List Nat := []
theorem cd101_0 : dOk d101_0 g101_0 l101_0 = true := by kernel_rfl
def g101_1 : List G := [⟨(some 0), .mv (.c (.func 121 [])), none⟩]
def d101_1 : Option (List (List Nat)) := none
def l101_1 : List Nat := []
theorem cd101_1 : dOk d101_1 g101_1 l101_1 = true := by kernel_rfl
def c101 : AC := (.seq (.reg d101_0 g101_0) (.seq (.reg d101_1 g101_1) .ret))
def r101 : List RV := [.tmp 0]
theorem cc101 : (Try.f101.body.bind (cCode Try.prog Try.f101.ntmps)) = some c101 := by kernel_rfl
theorem cr101 : cRes Try.prog Try.f101.results.toList = some r101 := by kernel_rfl
theorem ca101 : callable Try.prog 101 = true := by kernel_rfl
-- 105 pinfold/mark.possible$1
def g105_0 : List G := [⟨(some 3), .box (.t 0), none⟩,
  ⟨(some 4), .mv (.c (.bool false)), none⟩]
def d105_0 : Option (List (List Nat)) := none
def l105_0 : List Nat := []
theorem cd105_0 : dOk d105_0 g105_0 l105_0 = true := by kernel_rfl
def g105_1 : List G := [⟨(some 5), .fa 0 0 (.t 1), none⟩,
  ⟨(some 6), .ld (some 5) (.t 5), none⟩,
  ⟨(some 7), .fa 1 1 (.t 3), none⟩,
  ⟨(some 8), .ld (some 6) (.t 7), none⟩,
  ⟨(some 9), .ld (some 6) (.t 2), none⟩,
  ⟨(some 10), .call 88 [(.t 6), (.t 8), (.t 9)], none⟩,
  ⟨(some 11), .fa 1 5 (.t 1), none⟩,
  ⟨(some 12), .ld none (.t 11), none⟩,
  ⟨(some 13), .bin .gtr (.t 10) (.t 12), none⟩,
  ⟨(some 4), .mv (.t 13), none⟩]
def d105_1 : Option (List (List Nat)) := (some [[], [0], [], [2], [], [1, 3, 4], [], [6], [5, 7], [8, 5, 0, 1, 2, 3, 4, 5, 6, 7, 8]])
def l105_1 : List Nat := [0, 1, 0, 4, 0, 31, 0, 64, 255, 511]
theorem cd105_1 : dOk d105_1 g105_1 l105_1 = true := by kernel_rfl
def c105 : AC := (.seq (.reg d105_0 g105_0) (.seq (.reg d105_1 g105_1) .ret))
def r105 : List RV := [.tmp 4]
theorem cc105 : (Try.f105.body.bind (cCode Try.prog Try.f105.ntmps)) = some c105 := by kernel_rfl
theorem cr105 : cRes Try.prog Try.f105.results.toList = some r105 := by kernel_rfl
theorem ca105 : callable Try.prog 105 = true := by kernel_rfl
-- 106 cmp.Compare[int]
def g106_0 : List G := [⟨(some 4), .mv (.c (.int .i64 (0))), none⟩]
def d106_0 : Option (List (List Nat)) := none
def l106_0 : List Nat := []
theorem cd106_0 : dOk d106_0 g106_0 l106_0 = true := by kernel_rfl
def g106_1 : List G := [⟨(some 7), .mv (.t 0), none⟩,
  ⟨(some 8), .call 123 [(.t 7)], none⟩,
  ⟨(some 5), .mv (.t 8), none⟩]
def d106_1 : Option (List (List Nat)) := none
def l106_1 : List Nat := []
theorem cd106_1 : dOk d106_1 g106_1 l106_1 = true := by kernel_rfl
def g106_2 : List G := [⟨(some 9), .mv (.t 1), none⟩,
  ⟨(some 10), .call 123 [(.t 9)], none⟩,
  ⟨(some 6), .mv (.t 10), none⟩]
def d106_2 : Option (List (List Nat)) := none
def l106_2 : List Nat := []
theorem cd106_2 : dOk d106_2 g106_2 l106_2 = true := by kernel_rfl
def g106_3 : List G := [⟨(some 11), .mv (.t 5), none⟩]
def d106_3 : Option (List (List Nat)) := none
def l106_3 : List Nat := []
theorem cd106_3 : dOk d106_3 g106_3 l106_3 = true := by kernel_rfl
def g106_4 : List G := [⟨(some 12), .mv (.t 6), none⟩]
def d106_4 : Option (List (List Nat)) := none
def l106_4 : List Nat := []
theorem cd106_4 : dOk d106_4 g106_4 l106_4 = true := by kernel_rfl
def g106_5 : List G := [⟨(some 4), .mv (.c (.int .i64 (0))), none⟩]
def d106_5 : Option (List (List Nat)) := none
def l106_5 : List Nat := []
theorem cd106_5 : dOk d106_5 g106_5 l106_5 = true := by kernel_rfl
def g106_6 : List G := [⟨(some 4), .mv (.c (.int .i64 (-1))), none⟩]
def d106_6 : Option (List (List Nat)) := none
def l106_6 : List Nat := []
theorem cd106_6 : dOk d106_6 g106_6 l106_6 = true := by kernel_rfl
def g106_7 : List G := [⟨(some 13), .mv (.t 6), none⟩]
def d106_7 : Option (List (List Nat)) := none
def l106_7 : List Nat := []
theorem cd106_7 : dOk d106_7 g106_7 l106_7 = true := by kernel_rfl
def g106_8 : List G := [⟨(some 4), .mv (.c (.int .i64 (1))), none⟩]
def d106_8 : Option (List (List Nat)) := none
def l106_8 : List Nat := []
theorem cd106_8 : dOk d106_8 g106_8 l106_8 = true := by kernel_rfl
def g106_9 : List G := [⟨(some 14), .mv (.t 0), none⟩,
  ⟨(some 15), .mv (.t 1), none⟩,
  ⟨(some 16), .bin .lss (.t 14) (.t 15), none⟩]
def d106_9 : Option (List (List Nat)) := none
def l106_9 : List Nat := []
theorem cd106_9 : dOk d106_9 g106_9 l106_9 = true := by kernel_rfl
def g106_10 : List G := [⟨(some 4), .mv (.c (.int .i64 (-1))), none⟩]
def d106_10 : Option (List (List Nat)) := none
def l106_10 : List Nat := []
theorem cd106_10 : dOk d106_10 g106_10 l106_10 = true := by kernel_rfl
def g106_11 : List G := [⟨(some 17), .mv (.t 0), none⟩,
  ⟨(some 18), .mv (.t 1), none⟩,
  ⟨(some 19), .bin .gtr (.t 17) (.t 18), none⟩]
def d106_11 : Option (List (List Nat)) := none
def l106_11 : List Nat := []
theorem cd106_11 : dOk d106_11 g106_11 l106_11 = true := by kernel_rfl
def g106_12 : List G := [⟨(some 4), .mv (.c (.int .i64 (1))), none⟩]
def d106_12 : Option (List (List Nat)) := none
def l106_12 : List Nat := []
theorem cd106_12 : dOk d106_12 g106_12 l106_12 = true := by kernel_rfl
def g106_13 : List G := [⟨(some 4), .mv (.c (.int .i64 (0))), none⟩]
def d106_13 : Option (List (List Nat)) := none
def l106_13 : List Nat := []
theorem cd106_13 : dOk d106_13 g106_13 l106_13 = true := by kernel_rfl
def c106 : AC := (.seq (.reg d106_0 g106_0) (.seq (.reg d106_1 g106_1) (.seq (.reg d106_2 g106_2) (.seq (.seq (.reg d106_3 g106_3) (.cond (.t 11) (.seq (.seq (.reg d106_4 g106_4) (.cond (.t 12) (.seq (.reg d106_5 g106_5) .ret) .skip)) (.seq (.reg d106_6 g106_6) .ret)) .skip)) (.seq (.seq (.reg d106_7 g106_7) (.cond (.t 13) (.seq (.reg d106_8 g106_8) .ret) .skip)) (.seq (.seq (.reg d106_9 g106_9) (.cond (.t 16) (.seq (.reg d106_10 g106_10) .ret) .skip)) (.seq (.seq (.reg d106_11 g106_11) (.cond (.t 19) (.seq (.reg d106_12 g106_12) .ret) .skip)) (.seq (.reg d106_13 g106_13) .ret))))))))
def r106 : List RV := [.tmp 4]
theorem cc106 : (Try.f106.body.bind (cCode Try.prog Try.f106.ntmps)) = some c106 := by kernel_rfl
theorem cr106 : cRes Try.prog Try.f106.results.toList = some r106 := by kernel_rfl
theorem ca106 : callable Try.prog 106 = true := by kernel_rfl
-- 107 pinfold/mark.settles$1
def g107_0 : List G := [⟨(some 5), .mv (.c (.bool false)), none⟩]
def d107_0 : Option (List (List Nat)) := none
def l107_0 : List Nat := []
theorem cd107_0 : dOk d107_0 g107_0 l107_0 = true := by kernel_rfl
def g107_1 : List G := [⟨(some 6), .ld (some 5) (.t 1), none⟩,
  ⟨(some 7), .fa 1 1 (.t 2), none⟩,
  ⟨(some 8), .ld (some 6) (.t 7), none⟩,
  ⟨(some 9), .mv (.t 0), none⟩,
  ⟨(some 10), .call 77 [(.t 6), (.t 8), (.t 9)], none⟩,
  ⟨(some 11), .ld (some 5) (.t 1), none⟩,
  ⟨(some 12), .fa 1 1 (.t 3), none⟩,
  ⟨(some 13), .ld (some 6) (.t 12), none⟩,
  ⟨(some 14), .mv (.t 0), none⟩,
  ⟨(some 15), .call 77 [(.t 11), (.t 13), (.t 14)], none⟩,
  ⟨(some 16), .call 78 [(.t 10), (.t 15)], none⟩,
  ⟨(some 17), .un .not (.t 16), none⟩,
  ⟨(some 5), .mv (.t 17), none⟩]
def d107_1 : Option (List (List Nat)) := (some [[], [], [1], [], [0, 2, 3], [], [], [6], [], [5, 7, 8, 4], [4, 9, 9], [10], [11, 10, 0, 1, 2, 3, 4, 5, 6, 7, 8, 9, 10, 11]])
def l107_1 : List Nat := [0, 0, 2, 0, 15, 0, 0, 64, 0, 511, 1023, 2047, 4095]
theorem cd107_1 : dOk d107_1 g107_1 l107_1 = true := by kernel_rfl
def c107 : AC := (.seq (.reg d107_0 g107_0) (.seq (.reg d107_1 g107_1) .ret))
def r107 : List RV := [.tmp 5]
theorem cc107 : (Try.f107.body.bind (cCode Try.prog Try.f107.ntmps)) = some c107 := by kernel_rfl
theorem cr107 : cRes Try.prog Try.f107.results.toList = some r107 := by kernel_rfl
theorem ca107 : callable Try.prog 107 = true := by kernel_rfl
-- 108 slices.IndexFunc[[]pinfold/api.Given,pinfold/api.Given]
def g108_0 : List G := [⟨(some 4), .mv (.c (.int .i64 (0))), none⟩]
def d108_0 : Option (List (List Nat)) := none
def l108_0 : List Nat := []
theorem cd108_0 : dOk d108_0 g108_0 l108_0 = true := by kernel_rfl
def g108_1 : List G := [⟨(some 6), .mv (.t 0), none⟩,
  ⟨(some 7), .len (.t 6), none⟩,
  ⟨(some 8), .mv (.c (.int .i64 (0))), none⟩]
def d108_1 : Option (List (List Nat)) := none
def l108_1 : List Nat := []
theorem cd108_1 : dOk d108_1 g108_1 l108_1 = true := by kernel_rfl
def g108_2 : List G := [⟨(some 9), .bin .lss (.t 8) (.t 7), none⟩]
def d108_2 : Option (List (List Nat)) := none
def l108_2 : List Nat := []
theorem cd108_2 : dOk d108_2 g108_2 l108_2 = true := by kernel_rfl
def g108_3 : List G := [⟨(some 10), .mv (.t 8), none⟩,
  ⟨(some 5), .mv (.t 10), none⟩]
def d108_3 : Option (List (List Nat)) := none
def l108_3 : List Nat := []
theorem cd108_3 : dOk d108_3 g108_3 l108_3 = true := by kernel_rfl
def g108_4 : List G := [⟨(some 11), .mv (.t 1), none⟩,
  ⟨(some 12), .mv (.t 0), none⟩,
  ⟨(some 13), .mv (.t 5), none⟩,
  ⟨(some 14), .is 7 (.t 12) (.t 13), none⟩,
  ⟨(some 15), .ld (some 7) (.t 14), none⟩,
  ⟨(some 16), .callv (.t 11) [(.t 15)], none⟩]
def d108_4 : Option (List (List Nat)) := none
def l108_4 : List Nat := []
theorem cd108_4 : dOk d108_4 g108_4 l108_4 = true := by kernel_rfl
def g108_5 : List G := [⟨(some 17), .mv (.t 5), none⟩,
  ⟨(some 4), .mv (.t 17), none⟩]
def d108_5 : Option (List (List Nat)) := none
def l108_5 : List Nat := []
theorem cd108_5 : dOk d108_5 g108_5 l108_5 = true := by kernel_rfl
def g108_6 : List G := [⟨(some 18), .bin .add (.t 8) (.c (.int .i64 (1))), none⟩,
  ⟨(some 8), .mv (.t 18), none⟩]
def d108_6 : Option (List (List Nat)) := none
def l108_6 : List Nat := []
theorem cd108_6 : dOk d108_6 g108_6 l108_6 = true := by kernel_rfl
def g108_7 : List G := [⟨(some 4), .mv (.c (.int .i64 (-1))), none⟩]
def d108_7 : Option (List (List Nat)) := none
def l108_7 : List Nat := []
theorem cd108_7 : dOk d108_7 g108_7 l108_7 = true := by kernel_rfl
def c108 : AC := (.seq (.reg d108_0 g108_0) (.seq (.seq (.reg d108_1 g108_1) (.block 0 (.loop (.seq (.reg d108_2 g108_2) (.seq (.cond (.t 9) .skip (.exit 0)) (.seq (.block 1 (.seq (.reg d108_3 g108_3) (.seq (.reg d108_4 g108_4) (.cond (.t 16) (.seq (.reg d108_5 g108_5) .ret) .skip)))) (.reg d108_6 g108_6))))))) (.seq (.reg d108_7 g108_7) .ret)))
def r108 : List RV := [.tmp 4]
theorem cc108 : (Try.f108.body.bind (cCode Try.prog Try.f108.ntmps)) = some c108 := by kernel_rfl
theorem cr108 : cRes Try.prog Try.f108.results.toList = some r108 := by kernel_rfl
theorem ca108 : callable Try.prog 108 = true := by kernel_rfl
-- 109 slices.IndexFunc[[]int,int]
def g109_0 : List G := [⟨(some 4), .mv (.c (.int .i64 (0))), none⟩]
def d109_0 : Option (List (List Nat)) := none
def l109_0 : List Nat := []
theorem cd109_0 : dOk d109_0 g109_0 l109_0 = true := by kernel_rfl
def g109_1 : List G := [⟨(some 6), .mv (.t 0), none⟩,
  ⟨(some 7), .len (.t 6), none⟩,
  ⟨(some 8), .mv (.c (.int .i64 (0))), none⟩]
def d109_1 : Option (List (List Nat)) := none
def l109_1 : List Nat := []
theorem cd109_1 : dOk d109_1 g109_1 l109_1 = true := by kernel_rfl
def g109_2 : List G := [⟨(some 9), .bin .lss (.t 8) (.t 7), none⟩]
def d109_2 : Option (List (List Nat)) := none
def l109_2 : List Nat := []
theorem cd109_2 : dOk d109_2 g109_2 l109_2 = true := by kernel_rfl
def g109_3 : List G := [⟨(some 10), .mv (.t 8), none⟩,
  ⟨(some 5), .mv (.t 10), none⟩]
def d109_3 : Option (List (List Nat)) := none
def l109_3 : List Nat := []
theorem cd109_3 : dOk d109_3 g109_3 l109_3 = true := by kernel_rfl
def g109_4 : List G := [⟨(some 11), .mv (.t 1), none⟩,
  ⟨(some 12), .mv (.t 0), none⟩,
  ⟨(some 13), .mv (.t 5), none⟩,
  ⟨(some 14), .is 1 (.t 12) (.t 13), none⟩,
  ⟨(some 15), .ld none (.t 14), none⟩,
  ⟨(some 16), .callv (.t 11) [(.t 15)], none⟩]
def d109_4 : Option (List (List Nat)) := none
def l109_4 : List Nat := []
theorem cd109_4 : dOk d109_4 g109_4 l109_4 = true := by kernel_rfl
def g109_5 : List G := [⟨(some 17), .mv (.t 5), none⟩,
  ⟨(some 4), .mv (.t 17), none⟩]
def d109_5 : Option (List (List Nat)) := none
def l109_5 : List Nat := []
theorem cd109_5 : dOk d109_5 g109_5 l109_5 = true := by kernel_rfl
def g109_6 : List G := [⟨(some 18), .bin .add (.t 8) (.c (.int .i64 (1))), none⟩,
  ⟨(some 8), .mv (.t 18), none⟩]
def d109_6 : Option (List (List Nat)) := none
def l109_6 : List Nat := []
theorem cd109_6 : dOk d109_6 g109_6 l109_6 = true := by kernel_rfl
def g109_7 : List G := [⟨(some 4), .mv (.c (.int .i64 (-1))), none⟩]
def d109_7 : Option (List (List Nat)) := none
def l109_7 : List Nat := []
theorem cd109_7 : dOk d109_7 g109_7 l109_7 = true := by kernel_rfl
def c109 : AC := (.seq (.reg d109_0 g109_0) (.seq (.seq (.reg d109_1 g109_1) (.block 0 (.loop (.seq (.reg d109_2 g109_2) (.seq (.cond (.t 9) .skip (.exit 0)) (.seq (.block 1 (.seq (.reg d109_3 g109_3) (.seq (.reg d109_4 g109_4) (.cond (.t 16) (.seq (.reg d109_5 g109_5) .ret) .skip)))) (.reg d109_6 g109_6))))))) (.seq (.reg d109_7 g109_7) .ret)))
def r109 : List RV := [.tmp 4]
theorem cc109 : (Try.f109.body.bind (cCode Try.prog Try.f109.ntmps)) = some c109 := by kernel_rfl
theorem cr109 : cRes Try.prog Try.f109.results.toList = some r109 := by kernel_rfl
theorem ca109 : callable Try.prog 109 = true := by kernel_rfl
-- 110 (pinfold/mark.signs).has
def g110_0 : List G := [⟨(some 4), .mv (.c (.bool false)), none⟩]
def d110_0 : Option (List (List Nat)) := none
def l110_0 : List Nat := []
theorem cd110_0 : dOk d110_0 g110_0 l110_0 = true := by kernel_rfl
def g110_1 : List G := [⟨(some 5), .mv (.t 0), none⟩,
  ⟨(some 6), .mv (.t 1), none⟩,
  ⟨(some 7), .bin .shr (.t 5) (.t 6), none⟩,
  ⟨(some 8), .bin .and (.t 7) (.c (.int .i64 (1))), none⟩,
  ⟨(some 9), .bin .eql (.t 8) (.c (.int .i64 (1))), none⟩,
  ⟨(some 4), .mv (.t 9), none⟩]
def d110_1 : Option (List (List Nat)) := none
def l110_1 : List Nat := []
theorem cd110_1 : dOk d110_1 g110_1 l110_1 = true := by kernel_rfl
def c110 : AC := (.seq (.reg d110_0 g110_0) (.seq (.reg d110_1 g110_1) .ret))
def r110 : List RV := [.tmp 4]
theorem cc110 : (Try.f110.body.bind (cCode Try.prog Try.f110.ntmps)) = some c110 := by kernel_rfl
theorem cr110 : cRes Try.prog Try.f110.results.toList = some r110 := by kernel_rfl
theorem ca110 : callable Try.prog 110 = true := by kernel_rfl
-- 111 pinfold/mark.differ
def g111_0 : List G := [⟨(some 2), .mv (.c (.int .i64 (0))), none⟩]
def d111_0 : Option (List (List Nat)) := none
def l111_0 : List Nat := []
theorem cd111_0 : dOk d111_0 g111_0 l111_0 = true := by kernel_rfl
def g111_1 : List G := [⟨(some 3), .mv (.c (.int .i64 (0))), none⟩]
def d111_1 : Option (List (List Nat)) := none
def l111_1 : List Nat := []
theorem cd111_1 : dOk d111_1 g111_1 l111_1 = true := by kernel_rfl
def g111_2 : List G := [⟨(some 5), .mv (.c (.int .i64 (0))), none⟩]
def d111_2 : Option (List (List Nat)) := none
def l111_2 : List Nat := []
theorem cd111_2 : dOk d111_2 g111_2 l111_2 = true := by kernel_rfl
def g111_3 : List G := [⟨(some 6), .bin .lss (.t 5) (.c (.int .i64 (6))), none⟩]
def d111_3 : Option (List (List Nat)) := none
def l111_3 : List Nat := []
theorem cd111_3 : dOk d111_3 g111_3 l111_3 = true := by kernel_rfl
def g111_4 : List G := [⟨(some 7), .mv (.t 5), none⟩,
  ⟨(some 4), .mv (.t 7), none⟩]
def d111_4 : Option (List (List Nat)) := none
def l111_4 : List Nat := []
theorem cd111_4 : dOk d111_4 g111_4 l111_4 = true := by kernel_rfl
def g111_5 : List G := [⟨(some 8), .mv (.t 0), none⟩,
  ⟨(some 9), .mv (.t 4), none⟩,
  ⟨(some 10), .callv (.t 8) [(.t 9)], none⟩,
  ⟨(some 11), .un .not (.t 10), none⟩]
def d111_5 : Option (List (List Nat)) := none
def l111_5 : List Nat := []
theorem cd111_5 : dOk d111_5 g111_5 l111_5 = true := by kernel_rfl
def g111_6 : List G := [⟨(some 12), .mv (.t 3), none⟩,
  ⟨(some 13), .bin .add (.t 12) (.c (.int .i64 (1))), none⟩,
  ⟨(some 3), .mv (.t 13), none⟩]
def d111_6 : Option (List (List Nat)) := none
def l111_6 : List Nat := []
theorem cd111_6 : dOk d111_6 g111_6 l111_6 = true := by kernel_rfl
def g111_7 : List G := [⟨(some 14), .bin .add (.t 5) (.c (.int .i64 (1))), none⟩,
  ⟨(some 5), .mv (.t 14), none⟩]
def d111_7 : Option (List (List Nat)) := none
def l111_7 : List Nat := []
theorem cd111_7 : dOk d111_7 g111_7 l111_7 = true := by kernel_rfl
def g111_8 : List G := [⟨(some 15), .mv (.t 3), none⟩,
  ⟨(some 2), .mv (.t 15), none⟩]
def d111_8 : Option (List (List Nat)) := none
def l111_8 : List Nat := []
theorem cd111_8 : dOk d111_8 g111_8 l111_8 = true := by kernel_rfl
def c111 : AC := (.seq (.reg d111_0 g111_0) (.seq (.reg d111_1 g111_1) (.seq (.seq (.reg d111_2 g111_2) (.block 0 (.loop (.seq (.reg d111_3 g111_3) (.seq (.cond (.t 6) .skip (.exit 0)) (.seq (.block 1 (.seq (.reg d111_4 g111_4) (.seq (.reg d111_5 g111_5) (.cond (.t 11) (.reg d111_6 g111_6) .skip)))) (.reg d111_7 g111_7))))))) (.seq (.reg d111_8 g111_8) .ret))))
def r111 : List RV := [.tmp 2]
theorem cc111 : (Try.f111.body.bind (cCode Try.prog Try.f111.ntmps)) = some c111 := by kernel_rfl
theorem cr111 : cRes Try.prog Try.f111.results.toList = some r111 := by kernel_rfl
theorem ca111 : callable Try.prog 111 = true := by kernel_rfl
-- 112 pinfold/mark.distance$1
def g112_0 : List G := [⟨(some 6), .mv (.c (.bool false)), none⟩]
def d112_0 : Option (List (List Nat)) := none
def l112_0 : List Nat := []
theorem cd112_0 : dOk d112_0 g112_0 l112_0 = true := by kernel_rfl
def g112_1 : List G := [⟨(some 7), .ld none (.t 1), none⟩,
  ⟨(some 8), .ld (some 5) (.t 2), none⟩,
  ⟨(some 9), .ld (some 6) (.t 3), none⟩,
  ⟨(some 10), .mv (.t 0), none⟩,
  ⟨(some 11), .call 77 [(.t 8), (.t 9), (.t 10)], none⟩,
  ⟨(some 12), .ld (some 5) (.t 2), none⟩,
  ⟨(some 13), .ld (some 6) (.t 4), none⟩,
  ⟨(some 14), .mv (.t 0), none⟩,
  ⟨(some 15), .call 77 [(.t 12), (.t 13), (.t 14)], none⟩,
  ⟨(some 16), .callv (.t 7) [(.t 11), (.t 15)], none⟩,
  ⟨(some 6), .mv (.t 16), none⟩]
def d112_1 : Option (List (List Nat)) := (some [[], [], [], [], [1, 2, 3], [], [], [], [5, 6, 7, 4], [0, 4, 8, 8], [9, 9, 0, 1, 2, 3, 4, 5, 6, 7, 8, 9]])
def l112_1 : List Nat := [0, 0, 0, 0, 14, 0, 0, 0, 254, 511, 1023]
theorem cd112_1 : dOk d112_1 g112_1 l112_1 = true := by kernel_rfl
def c112 : AC := (.seq (.reg d112_0 g112_0) (.seq (.reg d112_1 g112_1) .ret))
def r112 : List RV := [.tmp 6]
theorem cc112 : (Try.f112.body.bind (cCode Try.prog Try.f112.ntmps)) = some c112 := by kernel_rfl
theorem cr112 : cRes Try.prog Try.f112.results.toList = some r112 := by kernel_rfl
theorem ca112 : callable Try.prog 112 = true := by kernel_rfl
-- 113 pinfold/mark.cost$1
def g113_0 : List G := [⟨(some 6), .mv (.c (.bool false)), none⟩]
def d113_0 : Option (List (List Nat)) := none
def l113_0 : List Nat := []
theorem cd113_0 : dOk d113_0 g113_0 l113_0 = true := by kernel_rfl
def g113_1 : List G := [⟨(some 7), .ld none (.t 1), none⟩,
  ⟨(some 8), .ld (some 5) (.t 2), none⟩,
  ⟨(some 9), .ld (some 6) (.t 3), none⟩,
  ⟨(some 10), .mv (.t 0), none⟩,
  ⟨(some 11), .call 77 [(.t 8), (.t 9), (.t 10)], none⟩,
  ⟨(some 12), .mv (.t 0), none⟩,
  ⟨(some 13), .ia 6 1 (.t 4) (.t 12), none⟩,
  ⟨(some 14), .ld none (.t 13), none⟩,
  ⟨(some 15), .callv (.t 7) [(.t 11), (.t 14)], none⟩,
  ⟨(some 6), .mv (.t 15), none⟩]
def d113_1 : Option (List (List Nat)) := (some [[], [], [], [], [1, 2, 3], [], [5], [6], [0, 4, 7, 4], [8, 8, 0, 1, 2, 3, 4, 5, 6, 7, 8]])
def l113_1 : List Nat := [0, 0, 0, 0, 14, 0, 32, 96, 255, 511]
theorem cd113_1 : dOk d113_1 g113_1 l113_1 = true := by kernel_rfl
def c113 : AC := (.seq (.reg d113_0 g113_0) (.seq (.reg d113_1 g113_1) .ret))
def r113 : List RV := [.tmp 6]
theorem cc113 : (Try.f113.body.bind (cCode Try.prog Try.f113.ntmps)) = some c113 := by kernel_rfl
theorem cr113 : cRes Try.prog Try.f113.results.toList = some r113 := by kernel_rfl
theorem ca113 : callable Try.prog 113 = true := by kernel_rfl
-- 114 slices.BinarySearchFunc[[]pinfold/api.Given,pinfold/api.Given,int]
def g114_0 : List G := [⟨(some 6), .mv (.c (.int .i64 (0))), none⟩,
  ⟨(some 7), .mv (.c (.bool false)), none⟩]
def d114_0 : Option (List (List Nat)) := none
def l114_0 : List Nat := []
theorem cd114_0 : dOk d114_0 g114_0 l114_0 = true := by kernel_rfl
def g114_1 : List G := [⟨(some 12), .mv (.t 0), none⟩,
  ⟨(some 13), .len (.t 12), none⟩,
  ⟨(some 8), .mv (.t 13), none⟩]
def d114_1 : Option (List (List Nat)) := none
def l114_1 : List Nat := []
theorem cd114_1 : dOk d114_1 g114_1 l114_1 = true := by kernel_rfl
def g114_2 : List G := [⟨(some 14), .mv (.t 8), none⟩,
  ⟨(some 9), .mv (.c (.int .i64 (0))), none⟩,
  ⟨(some 10), .mv (.t 14), none⟩]
def d114_2 : Option (List (List Nat)) := none
def l114_2 : List Nat := []
theorem cd114_2 : dOk d114_2 g114_2 l114_2 = true := by kernel_rfl
def g114_3 : List G := [⟨(some 15), .mv (.t 9), none⟩,
  ⟨(some 16), .mv (.t 10), none⟩,
  ⟨(some 17), .bin .lss (.t 15) (.t 16), none⟩]
def d114_3 : Option (List (List Nat)) := none
def l114_3 : List Nat := []
theorem cd114_3 : dOk d114_3 g114_3 l114_3 = true := by kernel_rfl
def g114_4 : List G := [⟨(some 18), .mv (.t 9), none⟩,
  ⟨(some 19), .mv (.t 10), none⟩,
  ⟨(some 20), .bin .add (.t 18) (.t 19), none⟩,
  ⟨(some 21), .conv .u64 (.t 20), none⟩,
  ⟨(some 22), .bin .shr (.t 21) (.c (.int .u64 (1))), none⟩,
  ⟨(some 23), .conv .i64 (.t 22), none⟩,
  ⟨(some 11), .mv (.t 23), none⟩]
def d114_4 : Option (List (List Nat)) := none
def l114_4 : List Nat := []
theorem cd114_4 : dOk d114_4 g114_4 l114_4 = true := by kernel_rfl
def g114_5 : List G := [⟨(some 24), .mv (.t 2), none⟩,
  ⟨(some 25), .mv (.t 0), none⟩,
  ⟨(some 26), .mv (.t 11), none⟩,
  ⟨(some 27), .is 7 (.t 25) (.t 26), none⟩,
  ⟨(some 28), .ld (some 7) (.t 27), none⟩,
  ⟨(some 29), .mv (.t 1), none⟩,
  ⟨(some 30), .callv (.t 24) [(.t 28), (.t 29)], none⟩,
  ⟨(some 31), .bin .lss (.t 30) (.c (.int .i64 (0))), none⟩]
def d114_5 : Option (List (List Nat)) := none
def l114_5 : List Nat := []
theorem cd114_5 : dOk d114_5 g114_5 l114_5 = true := by kernel_rfl
def g114_6 : List G := [⟨(some 32), .mv (.t 11), none⟩,
  ⟨(some 33), .bin .add (.t 32) (.c (.int .i64 (1))), none⟩,
  ⟨(some 9), .mv (.t 33), none⟩]
def d114_6 : Option (List (List Nat)) := none
def l114_6 : List Nat := []
theorem cd114_6 : dOk d114_6 g114_6 l114_6 = true := by kernel_rfl
def g114_7 : List G := [⟨(some 34), .mv (.t 11), none⟩,
  ⟨(some 10), .mv (.t 34), none⟩]
def d114_7 : Option (List (List Nat)) := none
def l114_7 : List Nat := []
theorem cd114_7 : dOk d114_7 g114_7 l114_7 = true := by kernel_rfl
def g114_8 : List G := [⟨(some 35), .mv (.t 9), none⟩,
  ⟨(some 36), .mv (.t 9), none⟩,
  ⟨(some 37), .mv (.t 8), none⟩,
  ⟨(some 38), .bin .lss (.t 36) (.t 37), none⟩,
  ⟨(some 39), .mv (.t 38), none⟩,
  ⟨(some 40), .mv (.t 2), some (39, true)⟩,
  ⟨(some 41), .mv (.t 0), some (39, true)⟩,
  ⟨(some 42), .mv (.t 9), some (39, true)⟩,
  ⟨(some 43), .is 7 (.t 41) (.t 42), some (39, true)⟩,
  ⟨(some 44), .ld (some 7) (.t 43), some (39, true)⟩,
  ⟨(some 45), .mv (.t 1), some (39, true)⟩,
  ⟨(some 46), .callv (.t 40) [(.t 44), (.t 45)], some (39, true)⟩,
  ⟨(some 47), .bin .eql (.t 46) (.c (.int .i64 (0))), some (39, true)⟩,
  ⟨(some 48), .pick (.t 39) (.t 47) (.c (.bool false)), none⟩,
  ⟨(some 6), .mv (.t 35), none⟩,
  ⟨(some 7), .mv (.t 48), none⟩]
def d114_8 : Option (List (List Nat)) := none
def l114_8 : List Nat := []
theorem cd114_8 : dOk d114_8 g114_8 l114_8 = true := by kernel_rfl
def c114 : AC := (.seq (.reg d114_0 g114_0) (.seq (.reg d114_1 g114_1) (.seq (.reg d114_2 g114_2) (.seq (.block 0 (.loop (.seq (.seq (.reg d114_3 g114_3) (.cond (.t 17) .skip (.exit 0))) (.block 1 (.seq (.reg d114_4 g114_4) (.seq (.reg d114_5 g114_5) (.cond (.t 31) (.reg d114_6 g114_6) (.reg d114_7 g114_7)))))))) (.seq (.reg d114_8 g114_8) .ret)))))
def r114 : List RV := [.tmp 6, .tmp 7]
theorem cc114 : (Try.f114.body.bind (cCode Try.prog Try.f114.ntmps)) = some c114 := by kernel_rfl
theorem cr114 : cRes Try.prog Try.f114.results.toList = some r114 := by kernel_rfl
theorem ca114 : callable Try.prog 114 = true := by kernel_rfl
-- 115 pinfold/mark.find$1
def g115_0 : List G := [⟨(some 2), .box (.t 0), none⟩,
  ⟨(some 4), .mv (.c (.int .i64 (0))), none⟩]
def d115_0 : Option (List (List Nat)) := none
def l115_0 : List Nat := []
theorem cd115_0 : dOk d115_0 g115_0 l115_0 = true := by kernel_rfl
def g115_1 : List G := [⟨(some 5), .fa 0 0 (.t 2), none⟩,
  ⟨(some 6), .ld none (.t 5), none⟩,
  ⟨(some 7), .mv (.t 1), none⟩,
  ⟨(some 8), .bin .sub (.t 6) (.t 7), none⟩,
  ⟨(some 4), .mv (.t 8), none⟩]
def d115_1 : Option (List (List Nat)) := none
def l115_1 : List Nat := []
theorem cd115_1 : dOk d115_1 g115_1 l115_1 = true := by kernel_rfl
def c115 : AC := (.seq (.reg d115_0 g115_0) (.seq (.reg d115_1 g115_1) .ret))
def r115 : List RV := [.tmp 4]
theorem cc115 : (Try.f115.body.bind (cCode Try.prog Try.f115.ntmps)) = some c115 := by kernel_rfl
theorem cr115 : cRes Try.prog Try.f115.results.toList = some r115 := by kernel_rfl
theorem ca115 : callable Try.prog 115 = true := by kernel_rfl
-- 116 pinfold/mark.isMark$1
def g116_0 : List G := [⟨(some 2), .mv (.c (.bool false)), none⟩]
def d116_0 : Option (List (List Nat)) := none
def l116_0 : List Nat := []
theorem cd116_0 : dOk d116_0 g116_0 l116_0 = true := by kernel_rfl
def g116_1 : List G := [⟨(some 3), .mv (.t 0), none⟩,
  ⟨(some 4), .call 89 [(.t 3), (.c (.int .i64 (0))), (.c (.int .i64 (4)))], none⟩,
  ⟨(some 5), .un .not (.t 4), none⟩,
  ⟨(some 2), .mv (.t 5), none⟩]
def d116_1 : Option (List (List Nat)) := none
def l116_1 : List Nat := []
theorem cd116_1 : dOk d116_1 g116_1 l116_1 = true := by kernel_rfl
def c116 : AC := (.seq (.reg d116_0 g116_0) (.seq (.reg d116_1 g116_1) .ret))
def r116 : List RV := [.tmp 2]
theorem cc116 : (Try.f116.body.bind (cCode Try.prog Try.f116.ntmps)) = some c116 := by kernel_rfl
theorem cr116 : cRes Try.prog Try.f116.results.toList = some r116 := by kernel_rfl
theorem ca116 : callable Try.prog 116 = true := by kernel_rfl
-- 117 (pinfold/mark.signs).isSet
def g117_0 : List G := [⟨(some 2), .mv (.c (.bool false)), none⟩]
def d117_0 : Option (List (List Nat)) := none
def l117_0 : List Nat := []
theorem cd117_0 : dOk d117_0 g117_0 l117_0 = true := by kernel_rfl
def g117_1 : List G := [⟨(some 3), .mv (.t 0), none⟩,
  ⟨(some 4), .call 89 [(.t 3), (.c (.int .i64 (0))), (.c (.int .i64 (31)))], none⟩,
  ⟨(some 2), .mv (.t 4), none⟩]
def d117_1 : Option (List (List Nat)) := none
def l117_1 : List Nat := []
theorem cd117_1 : dOk d117_1 g117_1 l117_1 = true := by kernel_rfl
def c117 : AC := (.seq (.reg d117_0 g117_0) (.seq (.reg d117_1 g117_1) .ret))
def r117 : List RV := [.tmp 2]
theorem cc117 : (Try.f117.body.bind (cCode Try.prog Try.f117.ntmps)) = some c117 := by kernel_rfl
theorem cr117 : cRes Try.prog Try.f117.results.toList = some r117 := by kernel_rfl
theorem ca117 : callable Try.prog 117 = true := by kernel_rfl
-- 118 pinfold/mark.isReading$1
def g118_0 : List G := [⟨(some 2), .mv (.c (.bool false)), none⟩]
def d118_0 : Option (List (List Nat)) := none
def l118_0 : List Nat := []
theorem cd118_0 : dOk d118_0 g118_0 l118_0 = true := by kernel_rfl
def g118_1 : List G := [⟨(some 3), .mv (.t 0), none⟩,
  ⟨(some 4), .bin .eql (.t 3) (.c (.int .i64 (0))), none⟩,
  ⟨(some 5), .mv (.t 4), none⟩,
  ⟨(some 6), .mv (.t 0), some (5, false)⟩,
  ⟨(some 7), .call 117 [(.t 6)], some (5, false)⟩,
  ⟨(some 8), .un .not (.t 7), some (5, false)⟩,
  ⟨(some 9), .pick (.t 5) (.c (.bool true)) (.t 8), none⟩,
  ⟨(some 2), .mv (.t 9), none⟩]
def d118_1 : Option (List (List Nat)) := none
def l118_1 : List Nat := []
theorem cd118_1 : dOk d118_1 g118_1 l118_1 = true := by kernel_rfl
def c118 : AC := (.seq (.reg d118_0 g118_0) (.seq (.reg d118_1 g118_1) .ret))
def r118 : List RV := [.tmp 2]
theorem cc118 : (Try.f118.body.bind (cCode Try.prog Try.f118.ntmps)) = some c118 := by kernel_rfl
theorem cr118 : cRes Try.prog Try.f118.results.toList = some r118 := by kernel_rfl
theorem ca118 : callable Try.prog 118 = true := by kernel_rfl
-- 119 slices.ContainsFunc[[]pinfold/api.Given,pinfold/api.Given]
def g119_0 : List G := [⟨(some 4), .mv (.c (.bool false)), none⟩]
def d119_0 : Option (List (List Nat)) := none
def l119_0 : List Nat := []
theorem cd119_0 : dOk d119_0 g119_0 l119_0 = true := by kernel_rfl
def g119_1 : List G := [⟨(some 5), .mv (.t 0), none⟩,
  ⟨(some 6), .mv (.t 1), none⟩,
  ⟨(some 7), .call 108 [(.t 5), (.t 6)], none⟩,
  ⟨(some 8), .bin .geq (.t 7) (.c (.int .i64 (0))), none⟩,
  ⟨(some 4), .mv (.t 8), none⟩]
def d119_1 : Option (List (List Nat)) := none
def l119_1 : List Nat := []
theorem cd119_1 : dOk d119_1 g119_1 l119_1 = true := by kernel_rfl
def c119 : AC := (.seq (.reg d119_0 g119_0) (.seq (.reg d119_1 g119_1) .ret))
def r119 : List RV := [.tmp 4]
theorem cc119 : (Try.f119.body.bind (cCode Try.prog Try.f119.ntmps)) = some c119 := by kernel_rfl
theorem cr119 : cRes Try.prog Try.f119.results.toList = some r119 := by kernel_rfl
theorem ca119 : callable Try.prog 119 = true := by kernel_rfl
-- 120 pinfold/mark.isApart$1
def g120_0 : List G := [⟨(some 3), .box (.t 0), none⟩,
  ⟨(some 4), .mv (.c (.bool false)), none⟩]
def d120_0 : Option (List (List Nat)) := none
def l120_0 : List Nat := []
theorem cd120_0 : dOk d120_0 g120_0 l120_0 = true := by kernel_rfl
def g120_1 : List G := [⟨(some 5), .fa 0 0 (.t 1), none⟩,
  ⟨(some 6), .ld (some 5) (.t 5), none⟩,
  ⟨(some 7), .fa 1 1 (.t 3), none⟩,
  ⟨(some 8), .ld (some 6) (.t 7), none⟩,
  ⟨(some 9), .ld (some 6) (.t 2), none⟩,
  ⟨(some 10), .call 87 [(.t 6), (.t 8), (.t 9)], none⟩,
  ⟨(some 11), .fa 1 5 (.t 1), none⟩,
  ⟨(some 12), .ld none (.t 11), none⟩,
  ⟨(some 13), .bin .mul (.c (.int .i64 (2))) (.t 12), none⟩,
  ⟨(some 14), .bin .leq (.t 10) (.t 13), none⟩,
  ⟨(some 4), .mv (.t 14), none⟩]
def d120_1 : Option (List (List Nat)) := (some [[], [0], [], [2], [], [1, 3, 4], [], [6], [7], [5, 8], [9, 5, 0, 1, 2, 3, 4, 5, 6, 7, 8, 9]])
def l120_1 : List Nat := [0, 1, 0, 4, 0, 31, 0, 64, 192, 511, 1023]
theorem cd120_1 : dOk d120_1 g120_1 l120_1 = true := by kernel_rfl
def c120 : AC := (.seq (.reg d120_0 g120_0) (.seq (.reg d120_1 g120_1) .ret))
def r120 : List RV := [.tmp 4]
theorem cc120 : (Try.f120.body.bind (cCode Try.prog Try.f120.ntmps)) = some c120 := by kernel_rfl
theorem cr120 : cRes Try.prog Try.f120.results.toList = some r120 := by kernel_rfl
theorem ca120 : callable Try.prog 120 = true := by kernel_rfl
-- 121 pinfold/mark.marks$1
def g121_0 : List G := [⟨(some 2), .alloc (.agg [.int .i64 (0), .int .i64 (0), .int .i64 (0), .int .i64 (0), .int .i64 (0), .int .i64 (0)]), none⟩,
  ⟨(some 3), .alloc (.agg [.int .i64 (0), .int .i64 (0), .int .i64 (0), .int .i64 (0), .int .i64 (0), .int .i64 (0)]), none⟩]
def d121_0 : Option (List (List Nat)) := none
def l121_0 : List Nat := []
theorem cd121_0 : dOk d121_0 g121_0 l121_0 = true := by kernel_rfl
def g121_1 : List G := [⟨(some 6), .mv (.c (.int .i64 (0))), none⟩]
def d121_1 : Option (List (List Nat)) := none
def l121_1 : List Nat := []
theorem cd121_1 : dOk d121_1 g121_1 l121_1 = true := by kernel_rfl
def g121_2 : List G := [⟨(some 7), .bin .lss (.t 6) (.c (.int .i64 (6))), none⟩]
def d121_2 : Option (List (List Nat)) := none
def l121_2 : List Nat := []
theorem cd121_2 : dOk d121_2 g121_2 l121_2 = true := by kernel_rfl
def g121_3 : List G := [⟨(some 8), .mv (.t 6), none⟩,
  ⟨(some 4), .mv (.t 8), none⟩]
def d121_3 : Option (List (List Nat)) := none
def l121_3 : List Nat := []
theorem cd121_3 : dOk d121_3 g121_3 l121_3 = true := by kernel_rfl
def g121_4 : List G := [⟨(some 9), .mv (.t 4), none⟩,
  ⟨(some 10), .ia 6 1 (.t 3) (.t 9), none⟩,
  ⟨none, .st none (.t 10) (.c (.int .i64 (4))), none⟩]
def d121_4 : Option (List (List Nat)) := none
def l121_4 : List Nat := []
theorem cd121_4 : dOk d121_4 g121_4 l121_4 = true := by kernel_rfl
def g121_5 : List G := [⟨(some 11), .bin .add (.t 6) (.c (.int .i64 (1))), none⟩,
  ⟨(some 6), .mv (.t 11), none⟩]
def d121_5 : Option (List (List Nat)) := none
def l121_5 : List Nat := []
theorem cd121_5 : dOk d121_5 g121_5 l121_5 = true := by kernel_rfl
def g121_6 : List G := [⟨(some 12), .mv (.t 0), none⟩,
  ⟨(some 13), .ld (some 6) (.t 2), none⟩,
  ⟨(some 14), .callv (.t 12) [(.t 13)], none⟩,
  ⟨(some 15), .mv (.t 14), none⟩,
  ⟨(some 16), .ld (some 6) (.t 2), some (15, true)⟩,
  ⟨(some 17), .ld (some 6) (.t 3), some (15, true)⟩,
  ⟨(some 18), .eqv (.ar 6 (.i .i64)) true (.t 16) (.t 17), some (15, true)⟩,
  ⟨(some 19), .pick (.t 15) (.t 18) (.c (.bool false)), none⟩]
def d121_6 : Option (List (List Nat)) := none
def l121_6 : List Nat := []
theorem cd121_6 : dOk d121_6 g121_6 l121_6 = true := by kernel_rfl
def g121_7 : List G := [⟨(some 5), .mv (.c (.int .i64 (5))), none⟩]
def d121_7 : Option (List (List Nat)) := none
def l121_7 : List Nat := []
theorem cd121_7 : dOk d121_7 g121_7 l121_7 = true := by kernel_rfl
def g121_8 : List G := [⟨(some 20), .mv (.t 5), none⟩,
  ⟨(some 21), .ia 6 1 (.t 2) (.t 20), none⟩,
  ⟨(some 22), .ld none (.t 21), none⟩,
  ⟨(some 23), .bin .eql (.t 22) (.c (.int .i64 (4))), none⟩]
def d121_8 : Option (List (List Nat)) := none
def l121_8 : List Nat := []
theorem cd121_8 : dOk d121_8 g121_8 l121_8 = true := by kernel_rfl
def g121_9 : List G := [⟨(some 24), .mv (.t 5), none⟩,
  ⟨(some 25), .ia 6 1 (.t 2) (.t 24), none⟩,
  ⟨none, .st none (.t 25) (.c (.int .i64 (0))), none⟩]
def d121_9 : Option (List (List Nat)) := none
def l121_9 : List Nat := []
theorem cd121_9 : dOk d121_9 g121_9 l121_9 = true := by kernel_rfl
def g121_10 : List G := [⟨(some 26), .mv (.t 5), none⟩,
  ⟨(some 27), .bin .sub (.t 26) (.c (.int .i64 (1))), none⟩,
  ⟨(some 5), .mv (.t 27), none⟩]
def d121_10 : Option (List (List Nat)) := none
def l121_10 : List Nat := []
theorem cd121_10 : dOk d121_10 g121_10 l121_10 = true := by kernel_rfl
def g121_11 : List G := [⟨(some 28), .mv (.t 5), none⟩,
  ⟨(some 29), .ia 6 1 (.t 2) (.t 28), none⟩,
  ⟨(some 30), .ld none (.t 29), none⟩,
  ⟨(some 31), .bin .add (.t 30) (.c (.int .i64 (1))), none⟩,
  ⟨(some 32), .ia 6 1 (.t 2) (.t 28), none⟩,
  ⟨none, .st none (.t 32) (.t 31), none⟩]
def d121_11 : Option (List (List Nat)) := none
def l121_11 : List Nat := []
theorem cd121_11 : dOk d121_11 g121_11 l121_11 = true := by kernel_rfl
def c121 : AC := (.seq (.reg d121_0 g121_0) (.seq (.seq (.reg d121_1 g121_1) (.block 0 (.loop (.seq (.reg d121_2 g121_2) (.seq (.cond (.t 7) .skip (.exit 0)) (.seq (.block 1 (.seq (.reg d121_3 g121_3) (.reg d121_4 g121_4))) (.reg d121_5 g121_5))))))) (.block 2 (.loop (.seq (.seq (.reg d121_6 g121_6) (.cond (.t 19) .skip (.exit 2))) (.block 3 (.seq (.reg d121_7 g121_7) (.seq (.block 4 (.loop (.seq (.seq (.reg d121_8 g121_8) (.cond (.t 23) .skip (.exit 4))) (.block 5 (.seq (.reg d121_9 g121_9) (.reg d121_10 g121_10)))))) (.reg d121_11 g121_11)))))))))
def r121 : List RV := []
theorem cc121 : (Try.f121.body.bind (cCode Try.prog Try.f121.ntmps)) = some c121 := by kernel_rfl
theorem cr121 : cRes Try.prog Try.f121.results.toList = some r121 := by kernel_rfl
theorem ca121 : callable Try.prog 121 = true := by kernel_rfl
-- 123 cmp.isNaN[int]
def g123_0 : List G := [⟨(some 2), .mv (.c (.bool false)), none⟩]
def d123_0 : Option (List (List Nat)) := none
def l123_0 : List Nat := []
theorem cd123_0 : dOk d123_0 g123_0 l123_0 = true := by kernel_rfl
def g123_1 : List G := [⟨(some 3), .mv (.t 0), none⟩,
  ⟨(some 4), .mv (.t 0), none⟩,
  ⟨(some 5), .bin .neq (.t 3) (.t 4), none⟩,
  ⟨(some 2), .mv (.t 5), none⟩]
def d123_1 : Option (List (List Nat)) := none
def l123_1 : List Nat := []
theorem cd123_1 : dOk d123_1 g123_1 l123_1 = true := by kernel_rfl
def c123 : AC := (.seq (.reg d123_0 g123_0) (.seq (.reg d123_1 g123_1) .ret))
def r123 : List RV := [.tmp 2]
theorem cc123 : (Try.f123.body.bind (cCode Try.prog Try.f123.ntmps)) = some c123 := by kernel_rfl
theorem cr123 : cRes Try.prog Try.f123.results.toList = some r123 := by kernel_rfl
theorem ca123 : callable Try.prog 123 = true := by kernel_rfl

end Go.Proofs.Ytkjkbpgdpnapfaa

/-
  THE ABSTRACT LAYER, 17: the rules of reckoning, in bundles; rules of code in the form in which they are used. Over any program.
-/
namespace Go.Abs
open Go Go.RowKit
open Enc (enc)

def condQ (x : AV) (p q : Prop) : Prop := match x with
  | .bool t => (t = true → p) ∧ (t = false → q)
  | _ => False
theorem AW.ite {c : Ctx} {A : AState} {Q : Exit → AState → Prop} {b : AOpd} {x y : AC} (h : condQ (ev A b) (AW c x Q A) (AW c y Q A)) : AW c (.cond b x y) Q A := by
  generalize hb : ev A b = v at h
  unfold condQ at h
  split at h
  · exact AW.cond hb h.1 h.2
  · exact h.elim

def retR (r : AV) : Option (List AV) → Prop
  | some xs => packR xs = r
  | none => False
theorem retQ_ret (rs : List RV) (r : AV) (A : AState) : retQ rs r .ret A = retR r (resAll A rs) := by
  simp only [retQ, retR]
  cases resAll A rs <;> simp
theorem retQ_normal (rs : List RV) (r : AV) (A : AState) : retQ rs r .normal A = retR r (resAll A rs) := by
  simp only [retQ, retR]
  cases resAll A rs <;> simp

def resO (s : Option Nat) (A : AState) : Option AV → Option AV
  | some x => if okLd s x = true then fin true A x else none
  | none => none
def consO : Option AV → Option (List AV) → Option (List AV)
  | some x, some xs => some (x :: xs)
  | _, _ => none
theorem resAll_nil (A : AState) : resAll A [] = some [] := rfl
theorem resAll_tmp (A : AState) (t : Nat) (rs : List RV) : resAll A (.tmp t :: rs) = consO (fin true A (A.t t)) (resAll A rs) := by
  simp only [resAll, resOf]
  cases fin true A (A.t t) <;> cases resAll A rs <;> rfl
theorem resAll_cell (A : AState) (a : Nat) (s : Option Nat) (rs : List RV) : resAll A (.cell a s :: rs) = consO (resO s A (derefE A (A.t a))) (resAll A rs) := by
  simp only [resAll, resOf, deref_eq]
  cases derefE A (A.t a) with
  | none => cases resAll A rs <;> rfl
  | some x =>
    by_cases h : okLd s x = true
    · simp only [resO, if_pos h]; cases fin true A x <;> cases resAll A rs <;> rfl
    · simp only [resO, if_neg h]; cases resAll A rs <;> rfl

def finR (bx : Bool) (A : AState) : Option AV → Option AV
  | some x => if x.closed = true then some (.ref x) else none
  | none => none
theorem fin_ptr (A : AState) (n : Nat) (p : List Nat) : fin true A (.ptr n p) = finR true A (derefP p (A.o n)) := by
  simp only [fin, deref_eq, derefE, if_true, finR]
  cases derefP p (A.o n) <;> rfl
open Classical in
noncomputable def finV (sz lo k : Nat) : Option (List AV) → Option AV
  | some fs => if AV.closeds ((fs.drop lo).take k) = true then some (.slice sz ((fs.drop lo).take k)) else none
  | none => none
theorem fin_view (A : AState) (n : Nat) (p : List Nat) (sz lo k : Nat) : fin true A (.view n p sz lo k) = finV sz lo k (fldsO (derefP p (A.o n))) := by
  simp only [fin, deref_eq, derefE, if_true]
  cases derefP p (A.o n) with
  | none => rfl
  | some c => cases c <;> simp only [fldsO, AV.flds, finV] <;> (split <;> simp_all)
open Classical in
noncomputable def finO (k : Nat) : Option AO → Option AV
  | some (.row _ sz es) => if k = es.length ∧ AV.closeds es = true then some (.slice sz es) else none
  | _ => none
theorem fin_own (bx : Bool) (A : AState) (n k : Nat) : fin bx A (.own n k) = finO k (A.o n) := by
  simp only [fin]
  cases A.o n with
  | none => rfl
  | some y => cases y <;> simp only [finO] <;> (split <;> simp_all)
theorem fin_agg (bx : Bool) (A : AState) (fs : List AV) : fin bx A (.agg fs) = (fins bx A fs).map .agg := by simp only [fin]
theorem fin_func (bx : Bool) (A : AState) (f : FuncId) (fs : List AV) : fin bx A (.func f fs) = (fins bx A fs).map (.func f) := by simp only [fin]
theorem fin_int (bx : Bool) (A : AState) (k : IntKind) (n : Int) : fin bx A (.int k n) = some (.int k n) := by simp only [fin]
theorem fin_bool (bx : Bool) (A : AState) (n : Bool) : fin bx A (.bool n) = some (.bool n) := by simp only [fin]
theorem fin_str (bx : Bool) (A : AState) (n : ByteArray) : fin bx A (.str n) = some (.str n) := by simp only [fin]
theorem fin_nils (bx : Bool) (A : AState) (n : Nat) : fin bx A (.nils n) = some (.slice n []) := by simp only [fin]
theorem fin_slice (bx : Bool) (A : AState) (n : Nat) (es : List AV) : fin bx A (.slice n es) = if AV.closeds es = true then some (.slice n es) else none := by simp only [fin]
theorem fin_ref (bx : Bool) (A : AState) (x : AV) : fin bx A (.ref x) = if x.closed = true then some (.ref x) else none := by simp only [fin]
theorem fins_nil (bx : Bool) (A : AState) : fins bx A [] = some [] := by simp only [fins]
theorem fins_cons (bx : Bool) (A : AState) (x : AV) (xs : List AV) : fins bx A (x :: xs) = consO (fin bx A x) (fins bx A xs) := by
  simp only [fins]; cases fin bx A x <;> cases fins bx A xs <;> rfl
theorem closed_agg (fs : List AV) : (AV.agg fs).closed = AV.closeds fs := by simp only [AV.closed]
theorem closed_slice (n : Nat) (fs : List AV) : (AV.slice n fs).closed = AV.closeds fs := by simp only [AV.closed]
theorem closed_ref (x : AV) : (AV.ref x).closed = x.closed := by simp only [AV.closed]
theorem closed_int (k : IntKind) (n : Int) : (AV.int k n).closed = true := by simp only [AV.closed]
theorem closed_bool (n : Bool) : (AV.bool n).closed = true := by simp only [AV.closed]
theorem closed_str (n : ByteArray) : (AV.str n).closed = true := by simp only [AV.closed]
theorem closed_func (f : FuncId) (fs : List AV) : (AV.func f fs).closed = AV.closeds fs := by simp only [AV.closed]
theorem closeds_nil : AV.closeds [] = true := by simp only [AV.closeds]
theorem closeds_cons (x : AV) (xs : List AV) : AV.closeds (x :: xs) = (x.closed && AV.closeds xs) := by simp only [AV.closeds]

theorem bin_add (k : IntKind) (a b : Int) : aBin .add (.int k a) (.int k b) = some (.int k (k.wrap (a + b))) := by simp [aBin]
theorem bin_sub (k : IntKind) (a b : Int) : aBin .sub (.int k a) (.int k b) = some (.int k (k.wrap (a - b))) := by simp [aBin]
theorem bin_mul (k : IntKind) (a b : Int) : aBin .mul (.int k a) (.int k b) = some (.int k (k.wrap (a * b))) := by simp [aBin]
theorem bin_quo (k : IntKind) (a b : Int) : aBin .quo (.int k a) (.int k b) = if b = 0 then none else some (.int k (k.wrap (a.tdiv b))) := by simp [aBin]
theorem bin_rem (k : IntKind) (a b : Int) : aBin .rem (.int k a) (.int k b) = if b = 0 then none else some (.int k (a.tmod b)) := by simp [aBin]
theorem bin_and (k : IntKind) (a b : Int) : aBin .and (.int k a) (.int k b) = some (.int k (k.wrap ((BitVec.ofInt k.bits a &&& BitVec.ofInt k.bits b).toNat : Int))) := by simp [aBin]
theorem bin_or (k : IntKind) (a b : Int) : aBin .or (.int k a) (.int k b) = some (.int k (k.wrap ((BitVec.ofInt k.bits a ||| BitVec.ofInt k.bits b).toNat : Int))) := by simp [aBin]
theorem bin_xor (k : IntKind) (a b : Int) : aBin .xor (.int k a) (.int k b) = some (.int k (k.wrap ((BitVec.ofInt k.bits a ^^^ BitVec.ofInt k.bits b).toNat : Int))) := by simp [aBin]
theorem bin_andNot (k : IntKind) (a b : Int) : aBin .andNot (.int k a) (.int k b) = some (.int k (k.wrap ((BitVec.ofInt k.bits a &&& ~~~ BitVec.ofInt k.bits b).toNat : Int))) := by simp [aBin]
theorem bin_shl (k k' : IntKind) (a b : Int) : aBin .shl (.int k a) (.int k' b) = if 0 ≤ b then some (.int k (k.wrap (a * 2 ^ (min b.toNat k.bits)))) else none := by simp [aBin]
theorem bin_shr (k k' : IntKind) (a b : Int) : aBin .shr (.int k a) (.int k' b) = if 0 ≤ b then some (.int k (a.fdiv (2 ^ (min b.toNat k.bits)))) else none := by simp [aBin]
theorem bin_eql (k : IntKind) (a b : Int) : aBin .eql (.int k a) (.int k b) = some (.bool (a == b)) := by simp [aBin]
theorem bin_neq (k : IntKind) (a b : Int) : aBin .neq (.int k a) (.int k b) = some (.bool (a != b)) := by simp [aBin]
theorem bin_lss (k : IntKind) (a b : Int) : aBin .lss (.int k a) (.int k b) = some (.bool (decide (a < b))) := by simp [aBin]
theorem bin_leq (k : IntKind) (a b : Int) : aBin .leq (.int k a) (.int k b) = some (.bool (decide (a ≤ b))) := by simp [aBin]
theorem bin_gtr (k : IntKind) (a b : Int) : aBin .gtr (.int k a) (.int k b) = some (.bool (decide (b < a))) := by simp [aBin]
theorem bin_geq (k : IntKind) (a b : Int) : aBin .geq (.int k a) (.int k b) = some (.bool (decide (b ≤ a))) := by simp [aBin]

/-- States and operations. -/
theorem absR :
    (∀ ts os d v, (mkA ts os).put d v = mkA ((d, v) :: ts) os) ∧ (∀ ts os d v, (mkA ts os).putO (some d) v = mkA ((d, v) :: ts) os) ∧ (∀ (A : AState) v, A.putO none v = A) ∧
    (∀ ts os d x, (mkA ts os).setO d x = mkA ts ((d, x) :: os)) ∧ (∀ ts os k, (mkA ts os).t k = look ts k) ∧ (∀ ts os k, (mkA ts os).o k = lookO os k) ∧
    (∀ j v r k, look ((j, v) :: r) k = if k = j then v else look r k) ∧ (∀ j v r k, lookO ((j, v) :: r) k = if k = j then some v else lookO r k) ∧ (∀ k, lookO [] k = none) ∧
    (∀ A k, ev A (.t k) = A.t k) ∧ (∀ A x, ev A (.c x) = x) ∧ (∀ d rest A v, kont d rest A v = aops rest (A.putO d v)) ∧ (∀ v k, bindR (some v) k = k v) ∧ (∀ A, aops [] A = .done A) :=
  ⟨mkA_put, mkA_putO, mkA_putN, mkA_setO, mkA_t, mkA_o, look_cons, lookO_cons, lookO_nil, ev_t, ev_c, kont_eq, bindR_some, aops_nil⟩

theorem opsR :
    (∀ d rest A op, aops (⟨d, op, none⟩ :: rest) A = opR A d op rest) ∧ (∀ d rest A op t b, aops (⟨d, op, some (t, b)⟩ :: rest) A = gdR (A.t t) b d op rest A) ∧
    (∀ d rest A op, gdR (.bool true) true d op rest A = opR A d op rest) ∧ (∀ d rest A op, gdR (.bool false) false d op rest A = opR A d op rest) ∧
    (∀ d rest A op, gdR (.bool true) false d op rest A = aops rest (A.putO d .undef)) ∧ (∀ d rest A op, gdR (.bool false) true d op rest A = aops rest (A.putO d .undef)) ∧ (∀ d rest A op b, gdR .undef b d op rest A = aops rest (A.putO d .undef)) ∧
    (∀ d rest A x, opR A d (.mv x) rest = aops rest (A.putO d (ev A x))) ∧ (∀ d rest A c a b, opR A d (.pick c a b) rest = pickR A d a b rest (ev A c)) ∧
    (∀ A d a b rest, pickR A d a b rest (.bool true) = aops rest (A.putO d (ev A a))) ∧ (∀ A d a b rest, pickR A d a b rest (.bool false) = aops rest (A.putO d (ev A b))) ∧
    (∀ d rest A op x y, opR A d (.bin op x y) rest = bindR (aBin op (ev A x) (ev A y)) (kont d rest A)) ∧
    (∀ d rest A ty neg x y, opR A d (.eqv ty neg x y) rest = bindR ((eqE ty (ev A x) (ev A y)).map fun b => .bool (if neg then !b else b)) (kont d rest A)) ∧
    (∀ d rest A op x, opR A d (.un op x) rest = bindR (unE op (ev A x)) (kont d rest A)) ∧ (∀ b, unE .not (.bool b) = some (.bool !b)) ∧ (∀ k n, unE .neg (.int k n) = some (.int k (k.wrap (0 - n)))) ∧
    (∀ d rest A k x, opR A d (.conv k x) rest = bindR (convE k (ev A x)) (kont d rest A)) ∧ (∀ k k' n, convE k (.int k' n) = some (.int k (k.wrap n))) ∧
    (∀ d rest A s x, opR A d (.ld s x) rest = bindR (okLO s (derefE A (ev A x))) (kont d rest A)) ∧ (∀ d rest A f off x, opR A d (.fa f off x) rest = bindR (faE A f off (ev A x)) (kont d rest A)) ∧
    (∀ d rest A f off s x, opR A d (.fl f off s x) rest = bindR (flE f off s (ev A x).flds) (kont d rest A)) ∧ (∀ d rest A n esz x i, opR A d (.ia n esz x i) rest = bindR (iaI A n esz (ev A x) (ev A i)) (kont d rest A)) ∧
    (∀ d rest A esz x i, opR A d (.is esz x i) rest = bindR (isI A esz (ev A x) (ev A i)) (kont d rest A)) ∧ (∀ d rest A n esz s x i, opR A d (.ix n esz s x i) rest = bindR (ixI n esz s (ev A x) (ev A i)) (kont d rest A)) ∧
    (∀ d rest A x, opR A d (.len x) rest = bindR (lenE A (ev A x)) (kont d rest A)) ∧ (∀ d rest A n esz x, opR A d (.va n esz x) rest = bindR (vaE A n esz (ev A x)) (kont d rest A)) ∧
    (∀ d rest A zs ps, opR A d (.bld zs ps) rest = bindR ((setParts zs (ps.map fun p => (p.1, ev A p.2))).map .agg) (kont d rest A)) ∧ (∀ d rest A x i, opR A d (.ext x i) rest = bindR (extE i (ev A x)) (kont d rest A)) ∧ (∀ i fs, extE i (.tuple fs) = fs[i]?) ∧
    (∀ d rest A f caps, opR A d (.mk f caps) rest = bindR (if ((caps.map (ev A)).all fun y => y.isVal) = true then some (.func f (caps.map (ev A))) else none) (kont d rest A)) ∧
    (∀ rest A d z, opR A (some d) (.alloc z) rest = allocR A d z rest (A.o d)) ∧ (∀ A d z rest, allocR A d z rest none = aops rest ((A.setO d (.box z)).put d (.ptr d []))) ∧
    (∀ rest A d x, opR A (some d) (.box x) rest = boxR A d (ev A x) rest (A.o d)) ∧ (∀ A d z rest, boxR A d z rest none = boxR2 A d z rest z.isVal) ∧ (∀ A d z rest, boxR2 A d z rest true = aops rest ((A.setO d (.box z)).put d (.ptr d []))) ∧
    (∀ rest A s x v, opR A none (.st s x v) rest = stR A s (ev A v) rest (ev A x)) ∧ (∀ A s v rest n p, stR A s v rest (.ptr n p) = stR2 A s n p v rest (A.o n)) ∧ (∀ A s n p v rest b, stR2 A s n p v rest (some (.box b)) = stR3 A s n p b v rest (b.at p)) ∧
    (∀ d rest A f args, opR A d (.call f args) rest = .call f (args.map (ev A)) (fins true A (args.map (ev A))) (fins false A (args.map (ev A))) d rest A) ∧
    (∀ d rest A x args, opR A d (.callv x args) rest = callvR A d (args.map (ev A)) rest (ev A x)) ∧ (∀ A d args rest f caps, callvR A d args rest (.func f caps) = .call f (args ++ caps) (fins true A (args ++ caps)) (fins false A (args ++ caps)) d rest A) :=
  ⟨a_none, a_some, gd_tt, gd_ff, gd_tf, gd_ft, gd_u, o_mv, o_pick, fun _ _ _ _ _ => rfl, fun _ _ _ _ _ => rfl, o_bin, o_eqv, o_un, fun _ => rfl, fun _ _ => rfl, o_conv, fun _ _ _ => rfl, o_ld, o_fa, o_fl, o_ia, o_is, o_ix, o_len, o_va, o_bld, o_ext, fun _ _ => rfl, o_mk,
    o_alloc, fun _ _ _ _ => rfl, o_box, fun _ _ _ _ => rfl, fun _ _ _ _ => rfl, o_st, fun _ _ _ _ _ _ => rfl, fun _ _ _ _ _ _ _ => rfl, o_call, o_callv, fun _ _ _ _ _ _ => rfl⟩

theorem stR3_ok {A : AState} {s : Option Nat} {n : Nat} {p : List Nat} {b v old : AV} {rest : List G} (h1 : v.isVal = true) (h2 : okLd s v = true) (h3 : v.sh = old.sh) : stR3 A s n p b v rest (some old) = aops rest (A.setO n (.box (b.setAt p v))) := by
  simp only [stR3]; rw [if_pos ⟨h1, h2, h3⟩]

/-- What values are. -/
theorem valR :
    (∀ A x, derefE A (.ref x) = some x) ∧ (∀ A n p, derefE A (.ptr n p) = derefP p (A.o n)) ∧ (∀ p c, derefP p (some (.box c)) = c.at p) ∧ (∀ c : AV, c.at [] = some c) ∧ (∀ (c : AV) i p, c.at (i :: p) = atL i p c.flds) ∧
    (∀ i p fs, atL i p (some fs) = atO p fs[i]?) ∧ (∀ p f, atO p (some f) = f.at p) ∧ (∀ c v : AV, c.setAt [] v = v) ∧ (∀ (c : AV) i p v, c.setAt (i :: p) v = setL c i p v c.flds) ∧ (∀ c i p v fs, setL c i p v (some fs) = setO2 fs i p v fs[i]?) ∧
    (∀ fs i p v f, setO2 fs i p v (some f) = .agg (fs.set i (f.setAt p v))) ∧ (∀ fs, (AV.agg fs).flds = some fs) ∧ (∀ x : AV, fldsO (some x) = x.flds) ∧
    (∀ s x, okLO s (some x) = if okLd s x = true then some x else none) ∧
    (∀ A f off c, faE A f off (.ref c) = faR f off c.flds) ∧ (∀ A f off n p, faE A f off (.ptr n p) = faP n p f off (fldsO (derefP p (A.o n)))) ∧ (∀ f off fs, faR f off (some fs) = faO fs f off fs[f]?) ∧ (∀ fs f off v, faO fs f off (some v) = offR fs f off (.ref v)) ∧
    (∀ n p f off fs, faP n p f off (some fs) = offR fs f off (.ptr n (p ++ [f]))) ∧ (∀ A n esz x kk k, iaI A n esz x (.int kk k) = iaE A n esz k x) ∧ (∀ A n esz k c, iaE A n esz k (.ref c) = inB k n (iaR n esz k c.flds)) ∧
    (∀ A n esz k m p, iaE A n esz k (.ptr m p) = inB k n (iaP n esz m p k (fldsO (derefP p (A.o m))))) ∧ (∀ n esz k fs, iaR n esz k (some fs) = iaF n esz fs ((fs[k.toNat]?).map .ref)) ∧ (∀ n esz m p k fs, iaP n esz m p k (some fs) = iaF n esz fs (some (.ptr m (p ++ [k.toNat])))) ∧
    (∀ A esz x kk k, isI A esz x (.int kk k) = isE A esz k x) ∧ (∀ n esz s x kk k, ixI n esz s x (.int kk k) = ixE n esz s k x.flds) ∧ (∀ n esz s k fs, ixE n esz s k (some fs) = inB k n (iaF n esz fs (okLO s fs[k.toNat]?))) ∧
    (∀ A n esz m p, vaE A n esz (.ptr m p) = vaP n esz m p (fldsO (derefP p (A.o m)))) ∧ (∀ n esz m p fs, vaP n esz m p (some fs) = vaF n esz fs (.view m p esz 0 n)) ∧
    (∀ A sz es, lenE A (.slice sz es) = some (.int .i64 es.length)) ∧ (∀ A n, lenE A (.nils n) = some (.int .i64 0)) ∧ (∀ A n, lenE A (.c0 n) = some (.int .i64 0)) :=
  ⟨fun _ _ => rfl, fun _ _ _ => rfl, fun _ _ => rfl, at_nil, at_cons, fun _ _ _ => rfl, fun _ _ => rfl, setAt_nil, setAt_cons, fun _ _ _ _ _ => rfl, fun _ _ _ _ _ => rfl, fun _ => rfl, fun _ => rfl, fun _ _ => rfl, fun _ _ _ _ => rfl, fun _ _ _ _ _ => rfl, fun _ _ _ => rfl, fun _ _ _ _ => rfl,
    fun _ _ _ _ _ => rfl, fun _ _ _ _ _ _ => rfl, fun _ _ _ _ _ => rfl, fun _ _ _ _ _ _ => rfl, fun _ _ _ _ => rfl, fun _ _ _ _ _ _ => rfl, fun _ _ _ _ _ => rfl, fun _ _ _ _ _ _ => rfl, fun _ _ _ _ _ => rfl, fun _ _ _ _ _ => rfl, fun _ _ _ _ _ => rfl, fun _ _ _ => rfl, fun _ _ => rfl, fun _ _ => rfl⟩

/-- Values handed over, or back. -/
theorem finRs :
    (∀ A n p, fin true A (.ptr n p) = finR true A (derefP p (A.o n))) ∧ (∀ A x, finR true A (some x) = if x.closed = true then some (.ref x) else none) ∧ (∀ A n p sz lo k, fin true A (.view n p sz lo k) = finV sz lo k (fldsO (derefP p (A.o n)))) ∧
    (∀ A n p, fin false A (.ptr n p) = none) ∧ (∀ A n p sz lo k, fin false A (.view n p sz lo k) = none) ∧ (∀ x, consO none x = none) ∧ (∀ x, consO x none = none) ∧
    (∀ bx A n k, fin bx A (.own n k) = finO k (A.o n)) ∧ (∀ bx A fs, fin bx A (.agg fs) = (fins bx A fs).map .agg) ∧ (∀ bx A f fs, fin bx A (.func f fs) = (fins bx A fs).map (.func f)) ∧ (∀ bx A k n, fin bx A (.int k n) = some (.int k n)) ∧ (∀ bx A b, fin bx A (.bool b) = some (.bool b)) ∧
    (∀ bx A s, fin bx A (.str s) = some (.str s)) ∧ (∀ bx A n, fin bx A (.nils n) = some (.slice n [])) ∧ (∀ bx A n es, fin bx A (.slice n es) = if AV.closeds es = true then some (.slice n es) else none) ∧ (∀ bx A x, fin bx A (.ref x) = if x.closed = true then some (.ref x) else none) ∧
    (∀ bx A, fins bx A [] = some []) ∧ (∀ bx A x xs, fins bx A (x :: xs) = consO (fin bx A x) (fins bx A xs)) ∧ (∀ x xs, consO (some x) (some xs) = some (x :: xs)) ∧
    (∀ fs, (AV.agg fs).closed = AV.closeds fs) ∧ (∀ n fs, (AV.slice n fs).closed = AV.closeds fs) ∧ (∀ x, (AV.ref x).closed = x.closed) ∧ (∀ k n, (AV.int k n).closed = true) ∧ (∀ n, (AV.bool n).closed = true) ∧ (∀ n, (AV.str n).closed = true) ∧ (∀ f fs, (AV.func f fs).closed = AV.closeds fs) ∧
    AV.closeds [] = true ∧ (∀ x xs, AV.closeds (x :: xs) = (x.closed && AV.closeds xs)) ∧
    (∀ rs r A, retQ rs r .ret A = retR r (resAll A rs)) ∧ (∀ rs r A, retQ rs r .normal A = retR r (resAll A rs)) ∧ (∀ r xs, retR r (some xs) = (packR xs = r)) ∧ (∀ A, resAll A [] = some []) ∧ (∀ A t rs, resAll A (.tmp t :: rs) = consO (fin true A (A.t t)) (resAll A rs)) ∧
    (∀ A a s rs, resAll A (.cell a s :: rs) = consO (resO s A (derefE A (A.t a))) (resAll A rs)) ∧ (∀ s A x, resO s A (some x) = if okLd s x = true then fin true A x else none) ∧ (∀ x, packR [x] = x) ∧ (∀ x y xs, packR (x :: y :: xs) = .tuple (x :: y :: xs)) :=
  ⟨fin_ptr, fun _ _ => rfl, fin_view, fun _ _ _ => rfl, fun _ _ _ _ _ _ => rfl, fun _ => rfl, fun x => by cases x <;> rfl, fin_own, fin_agg, fin_func, fin_int, fin_bool, fin_str, fin_nils, fin_slice, fin_ref, fins_nil, fins_cons, fun _ _ => rfl, closed_agg, closed_slice, closed_ref, closed_int, closed_bool, closed_str, closed_func, closeds_nil, closeds_cons,
    retQ_ret, retQ_normal, fun _ _ => rfl, resAll_nil, resAll_tmp, resAll_cell, fun _ _ _ => rfl, fun _ => rfl, fun _ _ _ => rfl⟩

/-- Numbers. -/
theorem binR :
    (∀ k a b, aBin .add (.int k a) (.int k b) = some (.int k (k.wrap (a + b)))) ∧ (∀ k a b, aBin .sub (.int k a) (.int k b) = some (.int k (k.wrap (a - b)))) ∧ (∀ k a b, aBin .mul (.int k a) (.int k b) = some (.int k (k.wrap (a * b)))) ∧
    (∀ k a b, aBin .quo (.int k a) (.int k b) = if b = 0 then none else some (.int k (k.wrap (a.tdiv b)))) ∧ (∀ k a b, aBin .rem (.int k a) (.int k b) = if b = 0 then none else some (.int k (a.tmod b))) ∧
    (∀ k a b, aBin .and (.int k a) (.int k b) = some (.int k (k.wrap ((BitVec.ofInt k.bits a &&& BitVec.ofInt k.bits b).toNat : Int)))) ∧ (∀ k a b, aBin .or (.int k a) (.int k b) = some (.int k (k.wrap ((BitVec.ofInt k.bits a ||| BitVec.ofInt k.bits b).toNat : Int)))) ∧
    (∀ k a b, aBin .xor (.int k a) (.int k b) = some (.int k (k.wrap ((BitVec.ofInt k.bits a ^^^ BitVec.ofInt k.bits b).toNat : Int)))) ∧ (∀ k a b, aBin .andNot (.int k a) (.int k b) = some (.int k (k.wrap ((BitVec.ofInt k.bits a &&& ~~~ BitVec.ofInt k.bits b).toNat : Int)))) ∧
    (∀ k k' a b, aBin .shl (.int k a) (.int k' b) = if 0 ≤ b then some (.int k (k.wrap (a * 2 ^ (min b.toNat k.bits)))) else none) ∧ (∀ k k' a b, aBin .shr (.int k a) (.int k' b) = if 0 ≤ b then some (.int k (a.fdiv (2 ^ (min b.toNat k.bits)))) else none) ∧
    (∀ k a b, aBin .eql (.int k a) (.int k b) = some (.bool (a == b))) ∧ (∀ k a b, aBin .neq (.int k a) (.int k b) = some (.bool (a != b))) ∧ (∀ k a b, aBin .lss (.int k a) (.int k b) = some (.bool (decide (a < b)))) ∧ (∀ k a b, aBin .leq (.int k a) (.int k b) = some (.bool (decide (a ≤ b)))) ∧
    (∀ k a b, aBin .gtr (.int k a) (.int k b) = some (.bool (decide (b < a)))) ∧ (∀ k a b, aBin .geq (.int k a) (.int k b) = some (.bool (decide (b ≤ a)))) :=
  ⟨bin_add, bin_sub, bin_mul, bin_quo, bin_rem, bin_and, bin_or, bin_xor, bin_andNot, bin_shl, bin_shr, bin_eql, bin_neq, bin_lss, bin_leq, bin_gtr, bin_geq⟩

/-- Typed data. -/
theorem encR {α : Type} [Enc α] :
    (∀ bx A (x : α), fin bx A (enc x) = some (enc x)) ∧ (∀ x : α, (enc x).closed = true) ∧ (∀ x : α, (enc x).isVal = true) ∧ (∀ x : α, okLd none (enc x) = !(Enc.isA α)) ∧ (∀ n (x : α), okLd (some n) (enc x) = (Enc.isA α && Enc.sz α == n)) ∧
    (∀ x : α, (enc x).size = Enc.sz α) ∧ (∀ x : α, (enc x).sh = Enc.sh α) ∧ (∀ l : List α, AV.closeds (l.map enc) = true) ∧ (∀ l : List α, AV.sizes (l.map enc) = l.length * Enc.sz α) ∧ (∀ l : List α, AV.shs (l.map enc) = List.replicate l.length (Enc.sh α)) ∧ (∀ p (x : α), (enc x).only p = true) :=
  ⟨e_fin, e_closed, e_isVal, e_okN, e_okS, e_size, e_sh, closeds_map, sizes_map, shs_map, e_only⟩

end Go.Abs

/-
  THE ABSTRACT LAYER, 18: typed data looked into: lengths, elements, fields. Over any program.
-/
namespace Go.Abs
open Go Go.RowKit
open Enc (enc)

section
variable {α : Type} [Enc α]

theorem lenE_enc (A : AState) (l : List α) : lenE A (enc l) = some (.int .i64 l.length) := by simp [e_list, lenE]

theorem isE_enc {A : AState} (esz : Nat) {k : Int} {l : List α} (h : 0 ≤ k ∧ k.toNat < l.length) (hs : Enc.sz α = esz) : isE A esz k (enc l) = some (.ref (enc l[k.toNat])) := by
  simp only [e_list, isE, hs, List.length_map, true_and]
  rw [if_pos ⟨h.1, by omega⟩]
  simp [h.2]
theorem isE_nat {A : AState} (esz : Nat) {k : Nat} {l : List α} (h : k < l.length) (hs : Enc.sz α = esz) : isE A esz k (enc l) = some (.ref (enc l[k])) := by
  have := isE_enc (A := A) esz (k := (k : Int)) (l := l) ⟨by omega, by simpa using h⟩ hs
  simpa using this

theorem Arr.lt {α : Type} {n : Nat} (x : Arr n α) {k : Nat} (h : k < n) : k < x.l.length := by rw [x.h]; exact h
/-- The element of an array. -/
def Arr.at {n : Nat} (x : Arr n α) (k : Nat) (d : α) : α := x.l.getD k d

theorem iaR_enc {n : Nat} (esz : Nat) {k : Int} {x : Arr n α} (h : 0 ≤ k ∧ k.toNat < n) (hs : Enc.sz α = esz) : inB k n (iaR n esz k (some (x.l.map enc))) = some (.ref (enc (x.l[k.toNat]'(x.lt h.2)))) := by
  have hl := x.lt h.2
  simp only [inB, iaR, iaF, evenly_map n esz x.l x.h hs, if_true]
  rw [if_pos ⟨h.1, by omega⟩]
  simp [hl]
theorem iaP_enc {n m : Nat} (esz : Nat) {p : List Nat} {k : Int} {x : Arr n α} (h : 0 ≤ k ∧ k.toNat < n) (hs : Enc.sz α = esz) : inB k n (iaP n esz m p k (some (x.l.map enc))) = some (.ptr m (p ++ [k.toNat])) := by
  simp only [inB, iaP, iaF, evenly_map n esz x.l x.h hs, if_true]
  rw [if_pos ⟨h.1, by omega⟩]
theorem inB_nat {n : Nat} (esz : Nat) {k : Nat} (x : Arr n α) {y : Option AV} (h : k < n) (hs : Enc.sz α = esz) : inB (k : Int) n (iaF n esz (x.l.map enc) y) = y := by
  simp only [inB, iaF, evenly_map n esz x.l x.h hs, if_true]
  rw [if_pos ⟨by omega, by omega⟩]
theorem inB_int {n : Nat} (esz : Nat) {k : Int} (x : Arr n α) {y : Option AV} (h : 0 ≤ k ∧ k < n) (hs : Enc.sz α = esz) : inB k n (iaF n esz (x.l.map enc) y) = y := by
  simp only [inB, iaF, evenly_map n esz x.l x.h hs, if_true]
  rw [if_pos h]
theorem get_arr {n k : Nat} (x : Arr n α) (h : k < n) : (x.l.map enc)[k]? = some (enc (x.l[k]'(x.lt h))) := by
  simp [x.lt h]
theorem ixE_enc {n : Nat} (esz : Nat) {s : Option Nat} {k : Int} {x : Arr n α} (h : 0 ≤ k ∧ k.toNat < n) (hs : Enc.sz α = esz) : ixE n esz s k (some (x.l.map enc)) = okLO s (some (enc (x.l[k.toNat]'(x.lt h.2)))) := by
  have hl := x.lt h.2
  simp only [ixE, inB, iaF, evenly_map n esz x.l x.h hs, if_true]
  rw [if_pos ⟨h.1, by omega⟩]
  simp [hl]
theorem atL_enc {n k : Nat} {p : List Nat} {x : Arr n α} (h : k < n) : atL k p (some (x.l.map enc)) = (enc (x.l[k]'(x.lt h))).at p := by
  have hl := x.lt h
  simp [atL, atO, hl]

/-- Loading a typed value. -/
theorem okLO_one {x : α} (h : Enc.isA α = false) : okLO none (some (enc x)) = some (enc x) := by simp [okLO, okL, e_okN, h]
theorem okLO_agg {n : Nat} {x : α} (h : Enc.isA α = true) (hs : Enc.sz α = n) : okLO (some n) (some (enc x)) = some (enc x) := by simp [okLO, okL, e_okS, h, hs]
theorem okLO_int (k : IntKind) (n : Int) : okLO none (some (.int k n)) = some (.int k n) := by simp [okLO, okL, okLd, AV.isAgg]
theorem okLO_bool (b : Bool) : okLO none (some (.bool b)) = some (.bool b) := by simp [okLO, okL, okLd, AV.isAgg]
theorem okLO_slice (z : Nat) (es : List AV) : okLO none (some (.slice z es)) = some (.slice z es) := by simp [okLO, okL, okLd, AV.isAgg]
theorem okLO_func (f : FuncId) (es : List AV) : okLO none (some (.func f es)) = some (.func f es) := by simp [okLO, okL, okLd, AV.isAgg]
end

mutual
/-- What every value in memory keeps to: whole numbers within their kind, slices no longer than a slice can be. -/
def AV.wf : AV → Prop
  | .agg fs => AV.wfs fs
  | .int k n => k.min ≤ n ∧ n ≤ k.max
  | .str s => s.size ≤ maxLen
  | .slice _ es => es.length ≤ maxLen ∧ AV.wfs es
  | .ref c => c.wf
  | .func _ caps => AV.wfs caps
  | .iface _ v => v.wf
  | _ => True
def AV.wfs : List AV → Prop
  | [] => True
  | x :: xs => x.wf ∧ AV.wfs xs
end

mutual
theorem rc_wf {w : World} {D : Dom} {E : Env} : ∀ (x : AV) (cs : List Value), rc w D E x cs → x.wf
  | .agg fs, cs, h => by simp only [rc, AV.wf] at *; exact rcs_wf fs cs h
  | .int k n, cs, h => by simp only [rc, AV.wf] at *; exact h.2
  | .str s, cs, h => by simp only [rc, AV.wf] at *; exact h.2
  | .slice sz es, cs, h => by
    simp only [rc, AV.wf] at *
    obtain ⟨a, cap, _, h1, h2, h3, _⟩ := h
    refine ⟨by omega, ?_⟩
    rcases h3 with rfl | ⟨b, off, cs', _, _, h4⟩
    · simp [AV.wfs]
    · exact rcs_wf es cs' h4
  | .ref c, cs, h => by simp only [rc, AV.wf] at *; obtain ⟨b, off, cs', _, _, h⟩ := h; exact rc_wf c cs' h
  | .func f caps, cs, h => by simp only [rc, AV.wf] at *; obtain ⟨vs, _, h⟩ := h; exact rvs_wf caps vs h
  | .iface t v, cs, h => by simp only [rc, AV.wf] at *; obtain ⟨u, cs', _, _, h⟩ := h; exact rc_wf v cs' h
  | .bool _, _, _ | .nilp, _, _ | .nilf, _, _ | .nili, _, _ | .raw _, _, _ | .nils _, _, _ | .c0 _, _, _ | .ptr _ _, _, _ | .own _ _, _, _ | .view _ _ _ _ _, _, _ | .undef, _, _ | .top, _, _ | .tuple _, _, _ => by simp [AV.wf]
theorem rcs_wf {w : World} {D : Dom} {E : Env} : ∀ (xs : List AV) (cs : List Value), rcs w D E xs cs → AV.wfs xs
  | [], _, _ => by simp [AV.wfs]
  | x :: xs, cs, h => by
    simp only [rcs, AV.wfs] at *
    obtain ⟨c1, c2, _, h1, h2⟩ := h
    exact ⟨rc_wf x c1 h1, rcs_wf xs c2 h2⟩
theorem rvs_wf {w : World} {D : Dom} {E : Env} : ∀ (xs : List AV) (vs : List Value), rvs w D E xs vs → AV.wfs xs
  | [], _, _ => by simp [AV.wfs]
  | x :: xs, vs, h => by
    simp only [rvs, AV.wfs] at *
    obtain ⟨v, rest, cs, _, _, h1, h2⟩ := h
    exact ⟨rc_wf x cs h1, rvs_wf xs rest h2⟩
end

theorem wfs_map {α : Type} [Enc α] (l : List α) : AV.wfs (l.map enc) ↔ ∀ x ∈ l, (enc x : AV).wf := by
  induction l with
  | nil => simp [AV.wfs]
  | cons x l ih => simp [AV.wfs, ih]
theorem wf_list {α : Type} [Enc α] (l : List α) : (enc l : AV).wf ↔ l.length ≤ maxLen ∧ ∀ x ∈ l, (enc x : AV).wf := by
  simp only [e_list, AV.wf, List.length_map, wfs_map]
theorem wf_arr {α : Type} [Enc α] {n : Nat} (x : Arr n α) : (enc x : AV).wf ↔ ∀ y ∈ x.l, (enc y : AV).wf := by
  change (AV.agg (x.l.map enc)).wf ↔ _
  simp only [AV.wf, wfs_map]
theorem wf_int (n : Int) : (enc n : AV).wf ↔ -9223372036854775808 ≤ n ∧ n ≤ 9223372036854775807 := by
  change IntKind.i64.min ≤ n ∧ n ≤ IntKind.i64.max ↔ _
  simp [IntKind.min, IntKind.max, IntKind.bits, IntKind.signed]

/-- The arguments may be taken to be such as memory holds. -/
theorem Ctr.wf {P : Program} {f : FuncId} {args : List AV} {r : AV} (hc : callable P f = true) (h : AV.wfs args → Ctr P f args r) : Ctr P f args r :=
  ⟨hc, fun w D vs h1 h2 => (h (rvs_wf _ _ h2)).2 w D vs h1 h2⟩

theorem Ctr.mk' {P : Program} {f : FuncId} {fn : Func} {x : AC} {rs : List RV} {args : List AV} {r : AV} (hf : P.funcs[f]? = some fn) (hcall : callable P f = true) (hc : (fn.body.bind (cCode P fn.ntmps)) = some x)
    (hrs : cRes P fn.results.toList = some rs) (hn : args.length ≤ fn.ntmps) (h : AV.wfs args → ∀ (w : World) (D : Dom) (E : Env), AW ⟨P, w, D, fn.ntmps, ownE E, E, noY, none⟩ x (retQ rs r) (mkA (idx 0 args) [])) : Ctr P f args r :=
  Ctr.wf hcall fun hw => Ctr.mk hf hcall hc hrs hn (h hw)

/-- Results. -/
theorem ret_one (r x : AV) (h : x = r) : retR r (some [x]) := by simp [retR, packR, h]
theorem retR_enc {α : Type} [Enc α] (r : AV) (A : AState) (t : Nat) (x : α) (h : A.t t = enc x) (hr : enc x = r) : retR r (resAll A [.tmp t]) := by
  subst hr
  simp only [resAll_tmp, resAll_nil, h, e_fin, consO, retR, packR]

theorem useR {α : Type} [Enc α] :
    (∀ A (l : List α), lenE A (enc l) = some (.int .i64 l.length)) ∧ (∀ n (x : Arr n α), (enc x).flds = some (x.l.map enc)) :=
  ⟨lenE_enc, fun _ _ => rfl⟩
theorem okR : (∀ k n, okLO none (some (.int k n)) = some (.int k n)) ∧ (∀ b, okLO none (some (.bool b)) = some (.bool b)) ∧ (∀ z es, okLO none (some (.slice z es)) = some (.slice z es)) ∧ (∀ f es, okLO none (some (.func f es)) = some (.func f es)) :=
  ⟨okLO_int, okLO_bool, okLO_slice, okLO_func⟩

end Go.Abs

/-
  THE ABSTRACT LAYER, 19: slices made and appended to; a nil slice taken as one of the frame's own. Over any program.
-/
namespace Go.Abs
open Go Go.RowKit
open Enc (enc)

def nilE (neg : Bool) : AV → Option AV
  | .nils _ => some (.bool (!neg))
  | .slice _ es => if es.isEmpty then none else some (.bool neg)
  | .view _ _ _ _ _ => some (.bool neg)
  | _ => none
def lenTE : AV → Option AV
  | .str s => some (.int .i64 s.size)
  | _ => none
open Classical in
noncomputable def slV (n : Nat) (p : List Nat) (sz l0 k esz : Nat) (lo hi mx : Option AV) : Option (List AV) → Option AV
  | some fs => if sz = esz then sliceV n p sz l0 k fs.length lo hi mx else none
  | none => none
noncomputable def slE (A : AState) (esz : Nat) (lo hi mx : Option AV) : AV → Option AV
  | .slice sz es => if sz = esz then sliceOf sz es lo hi mx else none
  | .nils sz => if sz = esz then sliceOf sz [] lo hi mx else none
  | .c0 sz => if sz = esz then sliceOf sz [] lo hi mx else none
  | .view n p sz l0 k => slV n p sz l0 k esz lo hi mx (fldsO (derefP p (A.o n)))
  | _ => none
open Classical in
noncomputable def bsE (esz : Nat) : Option (List AV) → Option AV
  | some es => if (es.all fun e => e.size == esz) = true ∧ AV.closeds es = true then some (.slice esz es) else none
  | none => none

open Classical in
noncomputable def appR3 (A : AState) (d : Option Nat) (e esz bytes n l T sz' : Nat) (es : List AV) (rest : List G) : AV → Res
  | .slice sz ys => if okApp e esz bytes l sz ys T sz' es then aops rest ((A.setO n (.row e esz (es ++ ys))).putO d (.own n (es.length + ys.length))) else .fail
  | _ => .fail
noncomputable def appR2 (A : AState) (d : Option Nat) (e esz bytes n l : Nat) (x : AV) (rest : List G) : Option AO → Res
  | some (.row T sz' es) => appR3 A d e esz bytes n l T sz' es rest x
  | _ => .fail
noncomputable def appR (A : AState) (d : Option Nat) (e esz bytes : Nat) (z x : AV) (rest : List G) : AV → Res
  | .own n l => appR2 A d e esz bytes n l x rest (A.o n)
  | s => appO A d esz bytes z s (srcL A esz s) (srcL A esz x) (aops rest)

section
variable (d : Option Nat) (rest : List G) (A : AState)
noncomputable def nilR (neg : Bool) (x : AV) : Bool → Res
  | true => .any (fun m => m < 2) (fun m => aops rest (A.putO d (.bool (m == 0))))
  | false => bindR (nilE neg x) (kont d rest A)
theorem o_nilS (neg : Bool) (x : AOpd) : opR A d (.nilS neg x) rest = nilR d rest A neg (ev A x) (und (ev A x)) := by
  simp only [opR, gStep, pureOp]
  cases und (ev A x)
  · simp only [Bool.false_eq_true, if_false, nilR, nilE]; cases ev A x <;> rfl
  · rfl
theorem o_lenT (x : AOpd) : opR A d (.lenT x) rest = bindR (lenTE (ev A x)) (kont d rest A) := by
  simp only [opR, gStep, pureOp]; cases ev A x <;> rfl
theorem o_sl (esz : Nat) (x : AOpd) (lo hi mx : Option AOpd) : opR A d (.sl esz x lo hi mx) rest = bindR (slE A esz (lo.map (ev A)) (hi.map (ev A)) (mx.map (ev A)) (ev A x)) (kont d rest A) := by
  simp only [opR, gStep, pureOp]
  cases ev A x <;> try rfl
  rename_i n p sz l0 k
  simp only [slE, deref_eq, derefE]
  cases derefP p (A.o n) with
  | none => rfl
  | some c => cases c <;> simp only [fldsO, AV.flds, slV] <;> (first | rfl | (split <;> rfl))
theorem o_bs (esz : Nat) (ps : List AOpd) : opR A d (.bs esz ps) rest = bindR (bsE esz (fins false A (ps.map (ev A)))) (kont d rest A) := by
  simp only [opR, gStep, pureOp]; cases fins false A (ps.map (ev A)) <;> simp only [bsE] <;> rfl
theorem o_app (e esz bytes : Nat) (z : AV) (s x : AOpd) : opR A d (.app e esz bytes z s x) rest = appR A d e esz bytes z (ev A x) rest (ev A s) := by
  simp only [opR, gStep]
  generalize ev A s = s'
  generalize ev A x = x'
  cases s' <;> simp only [appR]
  rename_i n l
  cases x' <;> simp only <;> generalize A.o n = z <;> (cases z with
    | none => rfl
    | some y => cases y <;> simp only [appR2, appR3])
end

theorem opsR2 :
    (∀ d rest A neg x, opR A d (.nilS neg x) rest = nilR d rest A neg (ev A x) (und (ev A x))) ∧ (∀ d rest A neg x, nilR d rest A neg x false = bindR (nilE neg x) (kont d rest A)) ∧ (∀ z, und (.nils z) = false) ∧ (∀ n p sz lo k, und (.view n p sz lo k) = false) ∧ (∀ d rest A x, opR A d (.lenT x) rest = bindR (lenTE (ev A x)) (kont d rest A)) ∧
    (∀ d rest A esz x lo hi mx, opR A d (.sl esz x lo hi mx) rest = bindR (slE A esz (lo.map (ev A)) (hi.map (ev A)) (mx.map (ev A)) (ev A x)) (kont d rest A)) ∧
    (∀ d rest A esz ps, opR A d (.bs esz ps) rest = bindR (bsE esz (fins false A (ps.map (ev A)))) (kont d rest A)) ∧ (∀ d rest A e esz bytes z s x, opR A d (.app e esz bytes z s x) rest = appR A d e esz bytes z (ev A x) rest (ev A s)) ∧
    (∀ A d e esz bytes z x rest n l, appR A d e esz bytes z x rest (.own n l) = appR2 A d e esz bytes n l x rest (A.o n)) ∧ (∀ A d e esz bytes n l x rest T sz es, appR2 A d e esz bytes n l x rest (some (.row T sz es)) = appR3 A d e esz bytes n l T sz es rest x) ∧
    (∀ neg z, nilE neg (.nils z) = some (.bool (!neg))) :=
  ⟨o_nilS, fun _ _ _ _ _ => rfl, fun _ => rfl, fun _ _ _ _ _ => rfl, o_lenT, o_sl, o_bs, o_app, fun _ _ _ _ _ _ _ _ _ _ => rfl, fun _ _ _ _ _ _ _ _ _ _ _ _ => rfl, fun _ _ => rfl⟩

theorem onlys_append (p : Nat → Bool) (xs ys : List AV) : AV.onlys p (xs ++ ys) = (AV.onlys p xs && AV.onlys p ys) := by
  induction xs with
  | nil => simp [AV.onlys]
  | cons x xs ih => simp [AV.onlys, ih, Bool.and_assoc]

section
variable {α : Type} [Enc α]
theorem appR3_enc {A : AState} {d : Option Nat} (e : Nat) (esz bytes n : Nat) {l : Nat} {es ys : List α} {rest : List G} (hl : l = es.length) (hs : Enc.sz α = esz) (hy : ys ≠ []) (h1 : es.length + ys.length ≤ maxLen) (h2 : (es.length + ys.length) * bytes ≤ 140737488355328) :
    appR3 A d e esz bytes n l e esz (es.map enc) rest (enc ys) = aops rest ((A.setO n (.row e esz ((es ++ ys).map enc))).putO d (.own n (es ++ ys).length)) := by
  simp only [e_list, appR3]
  rw [if_pos ⟨by simpa using hl, hs, rfl, rfl, by simpa using hy, by simpa using h1, by simpa using h2⟩]
  simp
theorem bsE_enc (esz : Nat) {ys : List α} (hs : Enc.sz α = esz) : bsE esz (some (ys.map enc)) = some (enc ys) := by
  have h1 : ((ys.map enc).all fun e : AV => e.size == esz) = true := by
    simp only [List.all_eq_true, List.mem_map]
    rintro x ⟨y, _, rfl⟩
    simp [Enc.size, hs]
  simp only [bsE, e_list]
  rw [if_pos ⟨h1, closeds_map ys⟩, hs]
theorem bsE_one (esz : Nat) (y : α) (hs : Enc.sz α = esz) : bsE esz (some [enc y]) = some (enc [y]) := bsE_enc (ys := [y]) esz hs
theorem finO_enc (sz : Nat) {T k : Nat} {es : List α} (hk : k = es.length) (hs : Enc.sz α = sz) : finO k (some (.row T sz (es.map enc))) = some (enc es) := by
  simp only [finO, List.length_map]
  rw [if_pos ⟨hk, closeds_map es⟩, e_list, hs]
theorem onlys_map (p : Nat → Bool) (l : List α) : AV.onlys p (l.map enc) = true := by
  induction l with
  | nil => rfl
  | cons x l ih => simp only [List.map_cons, AV.onlys, e_only, ih, Bool.and_self]
theorem lenE_own (A : AState) (n k T sz : Nat) (es : List α) (ho : A.o n = some (.row T sz (es.map enc))) (hk : k = es.length) : lenE A (.own n k) = some (.int .i64 es.length) := by
  simp only [lenE, ho, List.length_map, hk, if_true]
end

/-- Slices of whole numbers. -/
theorem intsR :
    (∀ n : Int, bsE 1 (some [.int .i64 n]) = some (enc [n])) ∧ (∀ (T : Nat) (es : List Int), finO es.length (some (.row T 1 (es.map enc))) = some (enc es)) :=
  ⟨fun n => bsE_one 1 n rfl, fun _ _ => finO_enc 1 rfl rfl⟩

/-- A nil slice is the frame's own, as long as nothing else is called so. -/
theorem Sub.adopt {A : AState} {d n T sz z : Nat} (hd : A.t d = .nils z) (hn : A.o n = none) (hlt : n < 1000000) : Sub A ((A.setO n (.row T sz [])).put d (.own n 0)) := by
  rintro c a w ⟨D, E, h⟩
  have hE : E n = none := by have := h.obj n; rw [hn] at this; exact this
  have hl : Later w D E w D (fun m => if m = n then some (.rw none 0) else E m) := by
    refine ⟨fun _ _ h => h, fun _ _ _ _ h => h, fun m b sh he => ?_, fun m blk l he => ?_⟩
    · have : m ≠ n := fun e => by rw [e, hE] at he; cases he
      simp only [if_neg this]; exact he
    · have : m ≠ n := fun e => by rw [e, hE] at he; cases he
      exact ⟨blk, l, by simp only [if_neg this]; exact he, Nat.le_refl _, fun _ => rfl⟩
  refine ⟨D, fun m => if m = n then some (.rw none 0) else E m, h.sz, h.defs, fun t => ?_, h.unch, h.dom, h.live, fun m => ?_, fun m m' e e' b h1 h2 h3 h4 => ?_, fun m e hm hfx => ?_, h.nam, h.up, h.yok⟩
  · simp only [AState.put, AState.setO]
    by_cases ht : t = d
    · subst ht
      simp only [if_true]
      have hv := h.tm t
      rw [hd] at hv
      obtain ⟨cs, q1, q2⟩ := hv
      simp only [rc] at q2
      subst q2
      refine ⟨[.slice none 0 0], by simpa [isPack, AV.isAgg] using q1, ?_⟩
      simp only [rc, if_true]
      exact ⟨none, 0, rfl, Nat.le_refl _, ⟨_, _, _, rfl⟩, fun _ => trivial⟩
    · simp only [if_neg ht]
      exact rv.later hl (h.tm t)
  · simp only [AState.put, AState.setO]
    by_cases hm : m = n
    · subst hm
      simp only [if_true, objOk]
      exact ⟨none, by simp, by simp, trivial⟩
    · simp only [if_neg hm]
      exact (h.obj m).later hl (by simp only [if_neg hm]) fun _ _ _ _ => ⟨rfl, fun _ ho => ho⟩
  · by_cases hm : m = n <;> by_cases hm' : m' = n
    · rw [hm, hm']
    · simp only [if_pos hm, Option.some.injEq] at h1; subst h1; simp [Ent.blk] at h3
    · simp only [if_pos hm', Option.some.injEq] at h2; subst h2; simp [Ent.blk] at h4
    · simp only [if_neg hm] at h1; simp only [if_neg hm'] at h2; exact h.sep m m' e e' b h1 h2 h3 h4
  · have hmn : m ≠ n := fun e => by rw [e, h.fresh (.inr hlt)] at hm; cases hm
    simp only [if_neg hmn]
    exact h.hist m e hm hfx

theorem Sub.adoptL {ts : List (Nat × AV)} {os : List (Nat × AO)} (d n T sz z : Nat) (hd : look ts d = .nils z) (hn : lookO os n = none) {B : AState} (h : Sub (mkA ((d, .own n 0) :: ts) ((n, .row T sz []) :: os)) B) (hlt : n < 1000000 := by decide) : Sub (mkA ts os) B :=
  ((Sub.adopt (A := mkA ts os) (T := T) (sz := sz) hd hn hlt).trans (by rw [mkA_setO, mkA_put]; exact Sub.refl _)).trans h

/-- The number at a place of an array. -/
def Arr.g {n : Nat} (x : Arr n Int) (k : Nat) : Int := x.l.getD k 0
theorem Arr.g_eq {n k : Nat} (x : Arr n Int) (h : k < n) : x.l[k]'(x.lt h) = x.g k := by simp [Arr.g, x.lt h]
theorem atL_g {n k : Nat} {p : List Nat} (x : Arr n Int) (h : k < n) : atL k p (some (x.l.map enc)) = (AV.int .i64 (x.g k)).at p := by
  rw [atL_enc h, x.g_eq h]; rfl
theorem get_g {n k : Nat} (x : Arr n Int) (h : k < n) : (x.l.map (enc (α := Int)))[k]? = some (AV.int .i64 (x.g k)) := by
  rw [get_arr x h, x.g_eq h]; rfl
theorem wf_g {n k : Nat} (x : Arr n Int) (hw : (enc x : AV).wf) (h : k < n) : -9223372036854775808 ≤ x.g k ∧ x.g k ≤ 9223372036854775807 := by
  rw [← x.g_eq h]
  exact (wf_int _).1 ((wf_arr x).1 hw _ (List.getElem_mem _))

theorem okdR : (∀ k n, okLd none (.int k n) = true) ∧ (∀ b, okLd none (.bool b) = true) ∧ (∀ z es, okLd none (.slice z es) = true) ∧ (∀ f es, okLd none (.func f es) = true) ∧ (∀ z, okLd none (.nils z) = true) ∧ (∀ n k, okLd none (.own n k) = true) :=
  ⟨fun _ _ => rfl, fun _ => rfl, fun _ _ => rfl, fun _ _ => rfl, fun _ => rfl, fun _ _ => rfl⟩
theorem all_true {p : Nat → Bool} {n : Nat} (h : ∀ k, k < n → p k = true) : (List.range n).all p = true := by
  simp only [List.all_eq_true, List.mem_range]; exact h
theorem all_false {p : Nat → Bool} {n : Nat} (i : Nat) (hi : i < n) (h : p i = false) : (List.range n).all p = false := by
  simp only [List.all_eq_false, List.mem_range]; exact ⟨i, hi, by simp [h]⟩

/-- All of these rules, and what of the house's own they are used with. -/
theorem bR : (type_of% @absR) ∧ (type_of% @opsR) ∧ (type_of% @opsR2) ∧ (type_of% @intsR) ∧ (type_of% @okdR) ∧ (type_of% @valR) ∧ (type_of% @finRs) ∧ (type_of% @binR) ∧ (∀ n : Int, (enc n : AV) = .int .i64 n) ∧ (∀ n : Bool, (enc n : AV) = .bool n) ∧
    (∀ {α β : Type} (f : α → β) (x : α) (xs : List α), List.map f (x :: xs) = f x :: List.map f xs) ∧ (∀ {α β : Type} (f : α → β), List.map f [] = []) ∧ (∀ {α : Type} (xs : List α), [] ++ xs = xs) ∧ (∀ n : Nat, (n : Int).toNat = n) ∧ (∀ {α β : Type} (f : α → β) (x : α), Option.map f (some x) = some (f x)) ∧
    (∀ n : Nat, 0 ≤ (n : Int)) ∧ ((!true) = false) ∧ ((!false) = true) ∧ ((false = true) = False) ∧ ((true = false) = False) :=
  ⟨@absR, @opsR, @opsR2, @intsR, @okdR, @valR, @finRs, @binR, e_int, e_bool, fun _ _ _ => rfl, fun _ => rfl, fun _ => rfl, fun _ => rfl, fun _ _ => rfl, fun n => Int.natCast_nonneg n, rfl, rfl, by simp, by simp⟩

end Go.Abs

/-
  SMALL FUNCTIONS, EACH BY ITS CONTRACT: In, Has, Mod, At, IndexFunc and ContainsFunc over whole numbers.
-/
namespace Go.Proofs.Ytkjkbpgdpnapfaa
open Go Go.Abs
open Go.Abs.Enc (enc)

theorem F94 (n lo hi : Int) : Ctr Try.prog 94 [enc n, enc lo, enc hi] (enc (decide (lo ≤ n) && decide (n ≤ hi))) := by
  refine Ctr.mk' Try.func94 ca94 cc94 cr94 (Nat.le_of_ble_eq_true rfl) (fun hwf W0 D0 E1 => ?_)
  simp only [c94, r94, idx, Nat.zero_add, Nat.reduceAdd]
  refine AW.seq (AW.reg cd94_0 fun K hK => ?_)
  simp only [g94_0, bR, Nat.reduceEqDiff, reduceIte, Int.reduceBNe, Int.reduceBEq]
  refine .done (hK _ ?_); clear hK K; simp only [thenQ, blockQ]
  refine AW.seq (AW.reg cd94_1 fun K hK => ?_)
  simp only [g94_1, bR, Nat.reduceEqDiff, reduceIte, Int.reduceBNe, Int.reduceBEq]
  refine .guard (fun h => ?_) (fun h => ?_)
  · simp only [bR, Nat.reduceEqDiff, reduceIte, Int.reduceBNe, Int.reduceBEq, h]
    refine .done (hK _ ?_); clear hK K; simp only [thenQ, blockQ]
    refine AW.ret ?_
    simp only [blockQ, thenQ, bR, Nat.reduceEqDiff, reduceIte, Int.reduceBNe, Int.reduceBEq]
    simp_all
  · simp only [bR, Nat.reduceEqDiff, reduceIte, Int.reduceBNe, Int.reduceBEq, h]
    refine .done (hK _ ?_); clear hK K; simp only [thenQ, blockQ]
    refine AW.ret ?_
    simp only [blockQ, thenQ, bR, Nat.reduceEqDiff, reduceIte, Int.reduceBNe, Int.reduceBEq]
    simp at h
    simp; omega

theorem F27 (l : List Int) (n : Int) : Ctr Try.prog 27 [enc l, enc n] (enc (decide (n ∈ l))) := by
  refine Ctr.mk' Try.func27 ca27 cc27 cr27 (Nat.le_of_ble_eq_true rfl) (fun hwf W0 D0 E1 => ?_)
  simp only [c27, r27, idx, Nat.zero_add, Nat.reduceAdd]
  have hlen : l.length ≤ maxLen := ((wf_list l).1 hwf.1).1
  simp only [maxLen] at hlen
  refine AW.seq (AW.reg cd27_0 fun K hK => ?_)
  simp only [g27_0, bR, Nat.reduceEqDiff, reduceIte, Int.reduceBNe, Int.reduceBEq]
  refine .done (hK _ ?_); clear hK K; simp only [thenQ, blockQ]
  refine AW.seq ?_
  refine AW.seq (AW.reg cd27_1 fun K hK => ?_)
  simp only [g27_1, bR, Nat.reduceEqDiff, reduceIte, Int.reduceBNe, Int.reduceBEq]
  refine .done (hK _ ?_); clear hK K; simp only [thenQ, blockQ]
  refine AW.block (AW.loop (fun i : Nat => mkA [(0, enc l), (1, .int .i64 n), (4, .bool false), (5, .int .i64 i)] []) (fun i => i ≤ l.length ∧ n ∉ l.take i) (fun i => l.length - i) 0 ⟨Nat.zero_le _, by simp⟩ ?_ (fun i hi => ?_))
  · refine Sub.of_lists ?_ ?_ ?_ ?_ <;> simp [subT, subO, onlyT, onlyO, isIn, look_cons, lookO_cons, lookO_nil, AV.only, AV.onlys, AO.only, onlys_map, onlys_append, e_only, e_int, e_bool]
  · refine AW.seq (AW.seq ?_)
    refine AW.reg cd27_2 fun K hK => ?_
    simp only [g27_2, bR, Nat.reduceEqDiff, reduceIte, Int.reduceBNe, Int.reduceBEq]
    simp only [useR, bR, Nat.reduceEqDiff, reduceIte, Int.reduceBNe, Int.reduceBEq]
    refine .done (hK _ ?_); clear hK K; simp only [thenQ, blockQ]
    refine AW.ite ?_
    simp only [condQ, bR, Nat.reduceEqDiff, reduceIte, Int.reduceBNe, Int.reduceBEq]
    refine ⟨fun h => ?_, fun h => ?_⟩
    · have hlt : i < l.length := by simpa using h
      refine AW.skip ?_; simp only [thenQ, blockQ, reduceIte, Nat.reduceEqDiff]
      refine AW.seq (AW.block ?_)
      refine AW.seq (AW.reg cd27_3 fun K hK => ?_)
      simp only [g27_3, bR, Nat.reduceEqDiff, reduceIte, Int.reduceBNe, Int.reduceBEq]
      simp only [isE_nat 1 hlt rfl, okR, bR, Nat.reduceEqDiff, reduceIte, Int.reduceBNe, Int.reduceBEq]
      refine .done (hK _ ?_); clear hK K; simp only [thenQ, blockQ]
      refine AW.ite ?_
      simp only [condQ, bR, Nat.reduceEqDiff, reduceIte, Int.reduceBNe, Int.reduceBEq]
      refine ⟨fun h => ?_, fun h => ?_⟩
      · refine AW.seq (AW.reg cd27_4 fun K hK => ?_)
        simp only [g27_4, bR, Nat.reduceEqDiff, reduceIte, Int.reduceBNe, Int.reduceBEq]
        refine .done (hK _ ?_); clear hK K; simp only [thenQ, blockQ]
        refine AW.ret ?_
        simp only [blockQ, thenQ, bR, Nat.reduceEqDiff, reduceIte, Int.reduceBNe, Int.reduceBEq]
        simp at h
        simp [← h]
      · refine AW.skip ?_; simp only [thenQ, blockQ, reduceIte, Nat.reduceEqDiff]
        refine AW.reg cd27_5 fun K hK => ?_
        simp only [g27_5, bR, Nat.reduceEqDiff, reduceIte, Int.reduceBNe, Int.reduceBEq]
        refine .done (hK _ ?_); clear hK K; simp only [thenQ, blockQ]
        refine ⟨i + 1, ⟨by omega, fun hm => ?_⟩, by omega, ?_⟩
        · rw [List.take_succ_eq_append_getElem hlt] at hm
          rcases List.mem_append.1 hm with hm | hm
          · exact hi.2 hm
          · simp at h hm; exact h hm.symm
        · rw [wrap_id _ (by omega) (by omega)]
          refine Sub.of_lists ?_ ?_ ?_ ?_ <;> simp [subT, subO, onlyT, onlyO, isIn, look_cons, lookO_cons, lookO_nil, AV.only, AV.onlys, AO.only, onlys_map, onlys_append, e_only, e_int, e_bool]
    · have hge : i = l.length := by simp at h; omega
      refine AW.exit ?_; simp only [thenQ, blockQ, reduceIte, Nat.reduceEqDiff]
      refine AW.seq (AW.reg cd27_6 fun K hK => ?_)
      simp only [g27_6, bR, Nat.reduceEqDiff, reduceIte, Int.reduceBNe, Int.reduceBEq]
      refine .done (hK _ ?_); clear hK K; simp only [thenQ, blockQ]
      refine AW.ret ?_
      simp only [blockQ, thenQ, bR, Nat.reduceEqDiff, reduceIte, Int.reduceBNe, Int.reduceBEq]
      simp [hge] at hi
      simp [hi]

theorem tmod_wrap (n d : Int) (h0 : 0 < d) (h1 : d ≤ 4611686018427387904) : IntKind.i64.wrap (n.tmod d + d) = n.tmod d + d ∧ (n.tmod d + d).tmod d = n % d := by
  have a1 : n.tmod d < d := Int.tmod_lt_of_pos n h0
  have a2 : -d < n.tmod d := by
    have := Int.tmod_lt_of_pos (-n) h0
    rw [Int.neg_tmod] at this
    omega
  refine ⟨wrap_id _ (by omega) (by omega), ?_⟩
  rw [Int.tmod_eq_emod_of_nonneg (by omega), Int.add_emod_right]
  rw [Int.tmod_def, Int.sub_mul_emod_self_left]

theorem F23 (n d : Int) (h0 : 0 < d) (h1 : d ≤ 4611686018427387904) : Ctr Try.prog 23 [enc n, enc d] (enc (n % d)) := by
  refine Ctr.mk' Try.func23 ca23 cc23 cr23 (Nat.le_of_ble_eq_true rfl) (fun hwf W0 D0 E1 => ?_)
  simp only [c23, r23, idx, Nat.zero_add, Nat.reduceAdd]
  have hd : ¬ d = 0 := by omega
  refine AW.seq (AW.reg cd23_0 fun K hK => ?_)
  simp only [g23_0, bR, Nat.reduceEqDiff, reduceIte, Int.reduceBNe, Int.reduceBEq]
  refine .done (hK _ ?_); clear hK K; simp only [thenQ, blockQ]
  refine AW.seq (AW.reg cd23_1 fun K hK => ?_)
  simp only [g23_1, bR, Nat.reduceEqDiff, reduceIte, Int.reduceBNe, Int.reduceBEq]
  simp only [hd, bR, Nat.reduceEqDiff, reduceIte, Int.reduceBNe, Int.reduceBEq]
  refine .done (hK _ ?_); clear hK K; simp only [thenQ, blockQ]
  refine AW.ret ?_
  simp only [blockQ, thenQ, bR, Nat.reduceEqDiff, reduceIte, Int.reduceBNe, Int.reduceBEq]
  rw [(tmod_wrap n d h0 h1).1, (tmod_wrap n d h0 h1).2]

/-- The text's number at a place, the text going round. -/
def at' (c : List Int) (i : Int) : Int := if c = [] then 0 else c.getD (i % c.length).toNat 0

theorem F25 (c : List Int) (i : Int) (hc : c.length ≤ 4611686018427387904) : Ctr Try.prog 25 [enc c, enc i] (enc (at' c i)) := by
  refine Ctr.mk' Try.func25 ca25 cc25 cr25 (Nat.le_of_ble_eq_true rfl) (fun hwf W0 D0 E1 => ?_)
  simp only [c25, r25, idx, Nat.zero_add, Nat.reduceAdd]
  refine AW.seq (AW.reg cd25_0 fun K hK => ?_)
  simp only [g25_0, bR, Nat.reduceEqDiff, reduceIte, Int.reduceBNe, Int.reduceBEq]
  refine .done (hK _ ?_); clear hK K; simp only [thenQ, blockQ]
  refine AW.seq (AW.seq ?_)
  refine AW.reg cd25_1 fun K hK => ?_
  simp only [g25_1, bR, Nat.reduceEqDiff, reduceIte, Int.reduceBNe, Int.reduceBEq]
  simp only [useR, bR, Nat.reduceEqDiff, reduceIte, Int.reduceBNe, Int.reduceBEq]
  refine .done (hK _ ?_); clear hK K; simp only [thenQ, blockQ]
  refine AW.ite ?_
  simp only [condQ, bR, Nat.reduceEqDiff, reduceIte, Int.reduceBNe, Int.reduceBEq]
  refine ⟨fun h => ?_, fun h => ?_⟩
  · refine AW.seq (AW.reg cd25_2 fun K hK => ?_)
    simp only [g25_2, bR, Nat.reduceEqDiff, reduceIte, Int.reduceBNe, Int.reduceBEq]
    refine .done (hK _ ?_); clear hK K; simp only [thenQ, blockQ]
    refine AW.ret ?_
    simp only [blockQ, thenQ, bR, Nat.reduceEqDiff, reduceIte, Int.reduceBNe, Int.reduceBEq]
    simp at h
    simp [at', h]
  · simp at h
    have hpos : 0 < c.length := List.length_pos_iff.2 h
    have k1 : 0 ≤ i % (c.length : Int) := Int.emod_nonneg _ (by omega)
    have k2 : i % (c.length : Int) < c.length := Int.emod_lt_of_pos _ (by omega)
    have k3 : (i % (c.length : Int)).toNat < c.length := by omega
    refine AW.skip ?_; simp only [thenQ, blockQ, reduceIte, Nat.reduceEqDiff]
    refine AW.seq (AW.reg cd25_3 fun K hK => ?_)
    simp only [g25_3, bR, Nat.reduceEqDiff, reduceIte, Int.reduceBNe, Int.reduceBEq]
    simp only [useR, List.map_cons, List.map_nil, e_fin, bR, Nat.reduceEqDiff, reduceIte, Int.reduceBNe, Int.reduceBEq]
    refine .flat _ (F23 i c.length (by omega) (by omega)) rfl ?_
    simp only [bR, Nat.reduceEqDiff, reduceIte, Int.reduceBNe, Int.reduceBEq]
    simp only [isE_enc 1 ⟨k1, k3⟩ rfl, okR, bR, Nat.reduceEqDiff, reduceIte, Int.reduceBNe, Int.reduceBEq]
    refine .done (hK _ ?_); clear hK K; simp only [thenQ, blockQ]
    refine AW.ret ?_
    simp only [blockQ, thenQ, bR, Nat.reduceEqDiff, reduceIte, Int.reduceBNe, Int.reduceBEq]
    simp [at', h, List.getD_eq_getElem?_getD, k3]

end Go.Proofs.Ytkjkbpgdpnapfaa

/-
  CHECKS OF THE REFERENCE THAT LOOK AT AN ARRAY'S NUMBERS ONE BY ONE, EACH BY ITS CONTRACT: CheckMark, CheckReading, CheckWear, Sharp.
-/
namespace Go.Proofs.Ytkjkbpgdpnapfaa
open Go Go.Abs
open Go.Abs.Enc (enc)

def inR (lo hi n : Int) : Bool := decide (lo ≤ n) && decide (n ≤ hi)
def band (a b : Int) : Int := IntKind.i64.wrap ((BitVec.ofInt IntKind.i64.bits a &&& BitVec.ofInt IntKind.i64.bits b).toNat : Int)
def shl (a : Int) (k : Nat) : Int := IntKind.i64.wrap (a * 2 ^ min k IntKind.i64.bits)

theorem F42 (m : Arr 6 Int) : Ctr Try.prog 42 [enc m] (enc (if (List.range 6).all (fun i => inR 0 4 (m.g i)) then (0 : Int) else 10)) := by
  refine Ctr.mk' Try.func42 ca42 cc42 cr42 (Nat.le_of_ble_eq_true rfl) (fun hwf W0 D0 E1 => ?_)
  simp only [c42, r42, idx, Nat.zero_add, Nat.reduceAdd]
  refine AW.seq (AW.reg cd42_0 fun K hK => ?_)
  simp only [g42_0, bR, Nat.reduceEqDiff, reduceIte, Int.reduceBNe, Int.reduceBEq]
  refine .done (hK _ ?_); clear hK K; simp only [thenQ, blockQ]
  refine AW.seq ?_
  refine AW.seq (AW.reg cd42_1 fun K hK => ?_)
  simp only [g42_1, bR, Nat.reduceEqDiff, reduceIte, Int.reduceBNe, Int.reduceBEq]
  refine .done (hK _ ?_); clear hK K; simp only [thenQ, blockQ]
  refine AW.block (AW.loop (fun i : Nat => mkA [(1, .ptr 1 []), (2, .int .i64 0), (3, .int .i64 i)] [(1, .box (enc m))]) (fun j => j ≤ 6 ∧ ∀ i, i < j → inR 0 4 (m.g i) = true) (fun i => 6 - i) 0 ⟨by omega, fun k h => by omega⟩ ?_ (fun i hi => ?_))
  · refine Sub.of_lists ?_ ?_ ?_ ?_ <;> simp [subT, subO, onlyT, onlyO, isIn, look_cons, lookO_cons, lookO_nil, AV.only, AV.onlys, AO.only, onlys_map, onlys_append, e_only, e_int, e_bool]
  · refine AW.seq (AW.seq ?_)
    refine AW.reg cd42_2 fun K hK => ?_
    simp only [g42_2, bR, Nat.reduceEqDiff, reduceIte, Int.reduceBNe, Int.reduceBEq]
    refine .done (hK _ ?_); clear hK K; simp only [thenQ, blockQ]
    refine AW.ite ?_
    simp only [condQ, bR, Nat.reduceEqDiff, reduceIte, Int.reduceBNe, Int.reduceBEq]
    refine ⟨fun h => ?_, fun h => ?_⟩
    · have hlt : i < 6 := by simp at h; omega
      refine AW.skip ?_; simp only [thenQ, blockQ, reduceIte, Nat.reduceEqDiff]
      refine AW.seq (AW.block ?_)
      refine AW.seq (AW.reg cd42_3 fun K hK => ?_)
      simp only [g42_3, bR, Nat.reduceEqDiff, reduceIte, Int.reduceBNe, Int.reduceBEq]
      simp only [useR, inB_nat 1 m hlt rfl, atL_g m hlt, okR, bR, Nat.reduceEqDiff, reduceIte, Int.reduceBNe, Int.reduceBEq]
      refine .flat _ (F94 _ 0 4) rfl ?_
      simp only [bR, Nat.reduceEqDiff, reduceIte, Int.reduceBNe, Int.reduceBEq]
      refine .done (hK _ ?_); clear hK K; simp only [thenQ, blockQ]
      refine AW.ite ?_
      simp only [condQ, bR, Nat.reduceEqDiff, reduceIte, Int.reduceBNe, Int.reduceBEq]
      refine ⟨fun h => ?_, fun h => ?_⟩
      · refine AW.seq (AW.reg cd42_4 fun K hK => ?_)
        simp only [g42_4, bR, Nat.reduceEqDiff, reduceIte, Int.reduceBNe, Int.reduceBEq]
        refine .done (hK _ ?_); clear hK K; simp only [thenQ, blockQ]
        refine AW.ret ?_
        simp only [blockQ, thenQ, bR, Nat.reduceEqDiff, reduceIte, Int.reduceBNe, Int.reduceBEq]
        rw [all_false i hlt]
        · simp
        · simp at h; simp [inR]; omega
      · refine AW.skip ?_; simp only [thenQ, blockQ, reduceIte, Nat.reduceEqDiff]
        refine AW.reg cd42_5 fun K hK => ?_
        simp only [g42_5, bR, Nat.reduceEqDiff, reduceIte, Int.reduceBNe, Int.reduceBEq]
        refine .done (hK _ ?_); clear hK K; simp only [thenQ, blockQ]
        refine ⟨i + 1, ⟨by omega, fun k hk => ?_⟩, by omega, ?_⟩
        · by_cases hk' : k = i
          · subst hk'
            simpa [inR] using h
          · exact hi.2 k (by omega)
        · rw [wrap_id _ (by omega) (by omega)]
          refine Sub.of_lists ?_ ?_ ?_ ?_ <;> simp [subT, subO, onlyT, onlyO, isIn, look_cons, lookO_cons, lookO_nil, AV.only, AV.onlys, AO.only, onlys_map, onlys_append, e_only, e_int, e_bool]
    · have hge : i = 6 := by simp at h; omega
      subst hge
      refine AW.exit ?_; simp only [thenQ, blockQ, reduceIte, Nat.reduceEqDiff]
      refine AW.seq (AW.reg cd42_6 fun K hK => ?_)
      simp only [g42_6, bR, Nat.reduceEqDiff, reduceIte, Int.reduceBNe, Int.reduceBEq]
      refine .done (hK _ ?_); clear hK K; simp only [thenQ, blockQ]
      refine AW.ret ?_
      simp only [blockQ, thenQ, bR, Nat.reduceEqDiff, reduceIte, Int.reduceBNe, Int.reduceBEq]
      rw [all_true hi.2]
      simp

theorem F46 (m : Arr 6 Int) : Ctr Try.prog 46 [enc m] (enc (if (List.range 6).all (fun i => inR 1 31 (m.g i)) then (0 : Int) else 12)) := by
  refine Ctr.mk' Try.func46 ca46 cc46 cr46 (Nat.le_of_ble_eq_true rfl) (fun hwf W0 D0 E1 => ?_)
  simp only [c46, r46, idx, Nat.zero_add, Nat.reduceAdd]
  refine AW.seq (AW.reg cd46_0 fun K hK => ?_)
  simp only [g46_0, bR, Nat.reduceEqDiff, reduceIte, Int.reduceBNe, Int.reduceBEq]
  refine .done (hK _ ?_); clear hK K; simp only [thenQ, blockQ]
  refine AW.seq ?_
  refine AW.seq (AW.reg cd46_1 fun K hK => ?_)
  simp only [g46_1, bR, Nat.reduceEqDiff, reduceIte, Int.reduceBNe, Int.reduceBEq]
  refine .done (hK _ ?_); clear hK K; simp only [thenQ, blockQ]
  refine AW.block (AW.loop (fun i : Nat => mkA [(1, .ptr 1 []), (2, .int .i64 0), (3, .int .i64 i)] [(1, .box (enc m))]) (fun j => j ≤ 6 ∧ ∀ i, i < j → inR 1 31 (m.g i) = true) (fun i => 6 - i) 0 ⟨by omega, fun k h => by omega⟩ ?_ (fun i hi => ?_))
  · refine Sub.of_lists ?_ ?_ ?_ ?_ <;> simp [subT, subO, onlyT, onlyO, isIn, look_cons, lookO_cons, lookO_nil, AV.only, AV.onlys, AO.only, onlys_map, onlys_append, e_only, e_int, e_bool]
  · refine AW.seq (AW.seq ?_)
    refine AW.reg cd46_2 fun K hK => ?_
    simp only [g46_2, bR, Nat.reduceEqDiff, reduceIte, Int.reduceBNe, Int.reduceBEq]
    refine .done (hK _ ?_); clear hK K; simp only [thenQ, blockQ]
    refine AW.ite ?_
    simp only [condQ, bR, Nat.reduceEqDiff, reduceIte, Int.reduceBNe, Int.reduceBEq]
    refine ⟨fun h => ?_, fun h => ?_⟩
    · have hlt : i < 6 := by simp at h; omega
      refine AW.skip ?_; simp only [thenQ, blockQ, reduceIte, Nat.reduceEqDiff]
      refine AW.seq (AW.block ?_)
      refine AW.seq (AW.reg cd46_3 fun K hK => ?_)
      simp only [g46_3, bR, Nat.reduceEqDiff, reduceIte, Int.reduceBNe, Int.reduceBEq]
      simp only [useR, inB_nat 1 m hlt rfl, atL_g m hlt, okR, bR, Nat.reduceEqDiff, reduceIte, Int.reduceBNe, Int.reduceBEq]
      refine .flat _ (F94 _ 1 31) rfl ?_
      simp only [bR, Nat.reduceEqDiff, reduceIte, Int.reduceBNe, Int.reduceBEq]
      refine .done (hK _ ?_); clear hK K; simp only [thenQ, blockQ]
      refine AW.ite ?_
      simp only [condQ, bR, Nat.reduceEqDiff, reduceIte, Int.reduceBNe, Int.reduceBEq]
      refine ⟨fun h => ?_, fun h => ?_⟩
      · refine AW.seq (AW.reg cd46_4 fun K hK => ?_)
        simp only [g46_4, bR, Nat.reduceEqDiff, reduceIte, Int.reduceBNe, Int.reduceBEq]
        refine .done (hK _ ?_); clear hK K; simp only [thenQ, blockQ]
        refine AW.ret ?_
        simp only [blockQ, thenQ, bR, Nat.reduceEqDiff, reduceIte, Int.reduceBNe, Int.reduceBEq]
        rw [all_false i hlt]
        · simp
        · simp at h; simp [inR]; omega
      · refine AW.skip ?_; simp only [thenQ, blockQ, reduceIte, Nat.reduceEqDiff]
        refine AW.reg cd46_5 fun K hK => ?_
        simp only [g46_5, bR, Nat.reduceEqDiff, reduceIte, Int.reduceBNe, Int.reduceBEq]
        refine .done (hK _ ?_); clear hK K; simp only [thenQ, blockQ]
        refine ⟨i + 1, ⟨by omega, fun k hk => ?_⟩, by omega, ?_⟩
        · by_cases hk' : k = i
          · subst hk'
            simpa [inR] using h
          · exact hi.2 k (by omega)
        · rw [wrap_id _ (by omega) (by omega)]
          refine Sub.of_lists ?_ ?_ ?_ ?_ <;> simp [subT, subO, onlyT, onlyO, isIn, look_cons, lookO_cons, lookO_nil, AV.only, AV.onlys, AO.only, onlys_map, onlys_append, e_only, e_int, e_bool]
    · have hge : i = 6 := by simp at h; omega
      subst hge
      refine AW.exit ?_; simp only [thenQ, blockQ, reduceIte, Nat.reduceEqDiff]
      refine AW.seq (AW.reg cd46_6 fun K hK => ?_)
      simp only [g46_6, bR, Nat.reduceEqDiff, reduceIte, Int.reduceBNe, Int.reduceBEq]
      refine .done (hK _ ?_); clear hK K; simp only [thenQ, blockQ]
      refine AW.ret ?_
      simp only [blockQ, thenQ, bR, Nat.reduceEqDiff, reduceIte, Int.reduceBNe, Int.reduceBEq]
      rw [all_true hi.2]
      simp

theorem F100 (m : Arr 6 Int) : Ctr Try.prog 100 [enc m] (enc (if (List.range 6).all (fun i => (band (m.g i) (IntKind.i64.wrap (m.g i - 1)) == 0)) then (true) else false)) := by
  refine Ctr.mk' Try.func100 ca100 cc100 cr100 (Nat.le_of_ble_eq_true rfl) (fun hwf W0 D0 E1 => ?_)
  simp only [c100, r100, idx, Nat.zero_add, Nat.reduceAdd]
  refine AW.seq (AW.reg cd100_0 fun K hK => ?_)
  simp only [g100_0, bR, Nat.reduceEqDiff, reduceIte, Int.reduceBNe, Int.reduceBEq]
  refine .done (hK _ ?_); clear hK K; simp only [thenQ, blockQ]
  refine AW.seq ?_
  refine AW.seq (AW.reg cd100_1 fun K hK => ?_)
  simp only [g100_1, bR, Nat.reduceEqDiff, reduceIte, Int.reduceBNe, Int.reduceBEq]
  refine .done (hK _ ?_); clear hK K; simp only [thenQ, blockQ]
  refine AW.block (AW.loop (fun i : Nat => mkA [(1, .ptr 1 []), (2, .bool false), (3, .int .i64 i)] [(1, .box (enc m))]) (fun j => j ≤ 6 ∧ ∀ i, i < j → (band (m.g i) (IntKind.i64.wrap (m.g i - 1)) == 0) = true) (fun i => 6 - i) 0 ⟨by omega, fun k h => by omega⟩ ?_ (fun i hi => ?_))
  · refine Sub.of_lists ?_ ?_ ?_ ?_ <;> simp [subT, subO, onlyT, onlyO, isIn, look_cons, lookO_cons, lookO_nil, AV.only, AV.onlys, AO.only, onlys_map, onlys_append, e_only, e_int, e_bool]
  · refine AW.seq (AW.seq ?_)
    refine AW.reg cd100_2 fun K hK => ?_
    simp only [g100_2, bR, Nat.reduceEqDiff, reduceIte, Int.reduceBNe, Int.reduceBEq]
    refine .done (hK _ ?_); clear hK K; simp only [thenQ, blockQ]
    refine AW.ite ?_
    simp only [condQ, bR, Nat.reduceEqDiff, reduceIte, Int.reduceBNe, Int.reduceBEq]
    refine ⟨fun h => ?_, fun h => ?_⟩
    · have hlt : i < 6 := by simp at h; omega
      refine AW.skip ?_; simp only [thenQ, blockQ, reduceIte, Nat.reduceEqDiff]
      refine AW.seq (AW.block ?_)
      refine AW.seq (AW.reg cd100_3 fun K hK => ?_)
      simp only [g100_3, bR, Nat.reduceEqDiff, reduceIte, Int.reduceBNe, Int.reduceBEq]
      simp only [useR, inB_nat 1 m hlt rfl, atL_g m hlt, okR, bR, Nat.reduceEqDiff, reduceIte, Int.reduceBNe, Int.reduceBEq]
      refine .done (hK _ ?_); clear hK K; simp only [thenQ, blockQ]
      refine AW.ite ?_
      simp only [condQ, bR, Nat.reduceEqDiff, reduceIte, Int.reduceBNe, Int.reduceBEq]
      refine ⟨fun h => ?_, fun h => ?_⟩
      · refine AW.seq (AW.reg cd100_4 fun K hK => ?_)
        simp only [g100_4, bR, Nat.reduceEqDiff, reduceIte, Int.reduceBNe, Int.reduceBEq]
        refine .done (hK _ ?_); clear hK K; simp only [thenQ, blockQ]
        refine AW.ret ?_
        simp only [blockQ, thenQ, bR, Nat.reduceEqDiff, reduceIte, Int.reduceBNe, Int.reduceBEq]
        rw [all_false i hlt]
        · simp
        · simpa [band] using h
      · refine AW.skip ?_; simp only [thenQ, blockQ, reduceIte, Nat.reduceEqDiff]
        refine AW.reg cd100_5 fun K hK => ?_
        simp only [g100_5, bR, Nat.reduceEqDiff, reduceIte, Int.reduceBNe, Int.reduceBEq]
        refine .done (hK _ ?_); clear hK K; simp only [thenQ, blockQ]
        refine ⟨i + 1, ⟨by omega, fun k hk => ?_⟩, by omega, ?_⟩
        · by_cases hk' : k = i
          · subst hk'
            simpa [band] using h
          · exact hi.2 k (by omega)
        · rw [wrap_id _ (by omega) (by omega)]
          refine Sub.of_lists ?_ ?_ ?_ ?_ <;> simp [subT, subO, onlyT, onlyO, isIn, look_cons, lookO_cons, lookO_nil, AV.only, AV.onlys, AO.only, onlys_map, onlys_append, e_only, e_int, e_bool]
    · have hge : i = 6 := by simp at h; omega
      subst hge
      refine AW.exit ?_; simp only [thenQ, blockQ, reduceIte, Nat.reduceEqDiff]
      refine AW.seq (AW.reg cd100_6 fun K hK => ?_)
      simp only [g100_6, bR, Nat.reduceEqDiff, reduceIte, Int.reduceBNe, Int.reduceBEq]
      refine .done (hK _ ?_); clear hK K; simp only [thenQ, blockQ]
      refine AW.ret ?_
      simp only [blockQ, thenQ, bR, Nat.reduceEqDiff, reduceIte, Int.reduceBNe, Int.reduceBEq]
      rw [all_true hi.2]
      simp

end Go.Proofs.Ytkjkbpgdpnapfaa

/-
  SMALL FUNCTIONS OF THE REFERENCE, EACH BY ITS CONTRACT: Members, CheckWear, Same.
-/
namespace Go.Proofs.Ytkjkbpgdpnapfaa
open Go Go.Abs
open Go.Abs.Enc (enc)

/-- Whether a bit is set. -/
def bit (w : Int) (k : Nat) : Bool := band w (shl 1 k) != 0
def members (w : Int) : Nat → List Int
  | 0 => []
  | k + 1 => members w k ++ if bit w k then [(k : Int)] else []

theorem members_le (w : Int) : ∀ k, (members w k).length ≤ k
  | 0 => Nat.le_refl _
  | k + 1 => by
    have := members_le w k
    simp only [members, List.length_append]
    split <;> simp <;> omega

theorem F33 (w : Int) : Ctr Try.prog 33 [enc w] (enc (members w 5)) := by
  refine Ctr.mk' Try.func33 ca33 cc33 cr33 (Nat.le_of_ble_eq_true rfl) (fun hwf W0 D0 E1 => ?_)
  simp only [c33, r33, idx, Nat.zero_add, Nat.reduceAdd]
  refine AW.seq (AW.reg cd33_0 fun K hK => ?_)
  simp only [g33_0, bR, Nat.reduceEqDiff, reduceIte, Int.reduceBNe, Int.reduceBEq]
  refine .done (hK _ ?_); clear hK K; simp only [thenQ, blockQ]
  refine AW.seq (AW.reg cd33_1 fun K hK => ?_)
  simp only [g33_1, bR, Nat.reduceEqDiff, reduceIte, Int.reduceBNe, Int.reduceBEq]
  refine .done (hK _ ?_); clear hK K; simp only [thenQ, blockQ]
  refine AW.seq (AW.seq ?_)
  refine AW.reg cd33_2 fun K hK => ?_
  simp only [g33_2, bR, Nat.reduceEqDiff, reduceIte, Int.reduceBNe, Int.reduceBEq]
  refine .done (hK _ ?_); clear hK K; simp only [thenQ, blockQ]
  refine AW.block (AW.loop (fun i : Nat => mkA [(0, .int .i64 w), (2, .nils 1), (3, .own 3 (members w i).length), (4, .int .i64 i)] [(3, .row 3 1 ((members w i).map enc))]) (fun i => i ≤ 5) (fun i => 5 - i) 0 (by omega) ?_ (fun i hi => ?_))
  · refine Sub.adoptL 3 3 3 1 1 ?_ ?_ ?_
    · simp only [absR, Nat.reduceEqDiff, reduceIte]
    · simp only [absR]
    · simp only [members, List.map_nil, List.length_nil]
      refine Sub.of_lists ?_ ?_ ?_ ?_ <;> simp [subT, subO, onlyT, onlyO, isIn, look_cons, lookO_cons, lookO_nil, AV.only, AV.onlys, AO.only, onlys_map, onlys_append, e_only, e_int, e_bool]
  · refine AW.seq (AW.seq ?_)
    refine AW.reg cd33_3 fun K hK => ?_
    simp only [g33_3, bR, Nat.reduceEqDiff, reduceIte, Int.reduceBNe, Int.reduceBEq]
    refine .done (hK _ ?_); clear hK K; simp only [thenQ, blockQ]
    refine AW.ite ?_
    simp only [condQ, bR, Nat.reduceEqDiff, reduceIte, Int.reduceBNe, Int.reduceBEq]
    refine ⟨fun h => ?_, fun h => ?_⟩
    · have hlt : i < 5 := by simp at h; omega
      have hml := members_le w i
      refine AW.skip ?_; simp only [thenQ, blockQ, reduceIte, Nat.reduceEqDiff]
      refine AW.seq (AW.block ?_)
      refine AW.seq (AW.reg cd33_4 fun K hK => ?_)
      simp only [g33_4, bR, Nat.reduceEqDiff, reduceIte, Int.reduceBNe, Int.reduceBEq]
      refine .done (hK _ ?_); clear hK K; simp only [thenQ, blockQ]
      refine AW.ite ?_
      simp only [condQ, bR, Nat.reduceEqDiff, reduceIte, Int.reduceBNe, Int.reduceBEq]
      refine ⟨fun h => ?_, fun h => ?_⟩
      · have hb : bit w i = true := h
        refine AW.reg cd33_5 fun K hK => ?_
        simp only [g33_5, bR, Nat.reduceEqDiff, reduceIte, Int.reduceBNe, Int.reduceBEq]
        rw [appR3_enc 3 1 8 3 rfl rfl (by simp) (by simp [maxLen]; omega) (by simp; omega)]
        simp only [bR, Nat.reduceEqDiff, reduceIte, Int.reduceBNe, Int.reduceBEq]
        refine .done (hK _ ?_); clear hK K; simp only [thenQ, blockQ]
        refine AW.reg cd33_6 fun K hK => ?_
        simp only [g33_6, bR, Nat.reduceEqDiff, reduceIte, Int.reduceBNe, Int.reduceBEq]
        refine .done (hK _ ?_); clear hK K; simp only [thenQ, blockQ]
        refine ⟨i + 1, by omega, by omega, ?_⟩
        rw [wrap_id _ (by omega) (by omega)]
        simp only [members, hb, reduceIte]
        refine Sub.of_lists ?_ ?_ ?_ ?_ <;> simp [subT, subO, onlyT, onlyO, isIn, look_cons, lookO_cons, lookO_nil, AV.only, AV.onlys, AO.only, onlys_map, onlys_append, e_only, e_int, e_bool]
      · have hb : bit w i = false := h
        refine AW.skip ?_; simp only [thenQ, blockQ, reduceIte, Nat.reduceEqDiff]
        refine AW.reg cd33_6 fun K hK => ?_
        simp only [g33_6, bR, Nat.reduceEqDiff, reduceIte, Int.reduceBNe, Int.reduceBEq]
        refine .done (hK _ ?_); clear hK K; simp only [thenQ, blockQ]
        refine ⟨i + 1, by omega, by omega, ?_⟩
        rw [wrap_id _ (by omega) (by omega)]
        simp only [members, hb, reduceIte, Bool.false_eq_true, List.append_nil]
        refine Sub.of_lists ?_ ?_ ?_ ?_ <;> simp [subT, subO, onlyT, onlyO, isIn, look_cons, lookO_cons, lookO_nil, AV.only, AV.onlys, AO.only, onlys_map, onlys_append, e_only, e_int, e_bool]
    · have hge : i = 5 := by simp at h; omega
      subst hge
      refine AW.exit ?_; simp only [thenQ, blockQ, reduceIte, Nat.reduceEqDiff]
      refine AW.seq (AW.reg cd33_7 fun K hK => ?_)
      simp only [g33_7, bR, Nat.reduceEqDiff, reduceIte, Int.reduceBNe, Int.reduceBEq]
      refine .done (hK _ ?_); clear hK K; simp only [thenQ, blockQ]
      refine AW.ret ?_
      simp only [blockQ, thenQ, bR, Nat.reduceEqDiff, reduceIte, Int.reduceBNe, Int.reduceBEq]
theorem F44 (m : Arr 5 Int) : Ctr Try.prog 44 [enc m] (enc (if (List.range 5).all (fun i => inR 0 31 (m.g i) && bit (m.g i) i) then (0 : Int) else 11)) := by
  refine Ctr.mk' Try.func44 ca44 cc44 cr44 (Nat.le_of_ble_eq_true rfl) (fun hwf W0 D0 E1 => ?_)
  simp only [c44, r44, idx, Nat.zero_add, Nat.reduceAdd]
  refine AW.seq (AW.reg cd44_0 fun K hK => ?_)
  simp only [g44_0, bR, Nat.reduceEqDiff, reduceIte, Int.reduceBNe, Int.reduceBEq]
  refine .done (hK _ ?_); clear hK K; simp only [thenQ, blockQ]
  refine AW.seq ?_
  refine AW.seq (AW.reg cd44_1 fun K hK => ?_)
  simp only [g44_1, bR, Nat.reduceEqDiff, reduceIte, Int.reduceBNe, Int.reduceBEq]
  refine .done (hK _ ?_); clear hK K; simp only [thenQ, blockQ]
  refine AW.block (AW.loop (fun i : Nat => mkA [(1, .ptr 1 []), (2, .int .i64 0), (3, .int .i64 i)] [(1, .box (enc m))]) (fun j => j ≤ 5 ∧ ∀ i, i < j → (inR 0 31 (m.g i) && bit (m.g i) i) = true) (fun i => 5 - i) 0 ⟨by omega, fun k h => by omega⟩ ?_ (fun i hi => ?_))
  · refine Sub.of_lists ?_ ?_ ?_ ?_ <;> simp [subT, subO, onlyT, onlyO, isIn, look_cons, lookO_cons, lookO_nil, AV.only, AV.onlys, AO.only, onlys_map, onlys_append, e_only, e_int, e_bool]
  · refine AW.seq (AW.seq ?_)
    refine AW.reg cd44_2 fun K hK => ?_
    simp only [g44_2, bR, Nat.reduceEqDiff, reduceIte, Int.reduceBNe, Int.reduceBEq]
    refine .done (hK _ ?_); clear hK K; simp only [thenQ, blockQ]
    refine AW.ite ?_
    simp only [condQ, bR, Nat.reduceEqDiff, reduceIte, Int.reduceBNe, Int.reduceBEq]
    refine ⟨fun h => ?_, fun h => ?_⟩
    · have hlt : i < 5 := by simp at h; omega
      refine AW.skip ?_; simp only [thenQ, blockQ, reduceIte, Nat.reduceEqDiff]
      refine AW.seq (AW.block ?_)
      refine AW.seq (AW.reg cd44_3 fun K hK => ?_)
      simp only [g44_3, bR, Nat.reduceEqDiff, reduceIte, Int.reduceBNe, Int.reduceBEq]
      simp only [useR, inB_nat 1 m hlt rfl, atL_g m hlt, okR, bR, Nat.reduceEqDiff, reduceIte, Int.reduceBNe, Int.reduceBEq]
      refine .flat _ (F94 _ 0 31) rfl ?_
      generalize hb : (decide (0 ≤ m.g i) && decide (m.g i ≤ 31)) = b
      cases b
      · simp only [bR, Nat.reduceEqDiff, reduceIte, Int.reduceBNe, Int.reduceBEq]
        refine .done (hK _ ?_); clear hK K; simp only [thenQ, blockQ]
        refine AW.ite ?_
        simp only [condQ, bR, Nat.reduceEqDiff, reduceIte, Int.reduceBNe, Int.reduceBEq]
        refine ⟨fun h => ?_, fun h => ?_⟩
        · refine AW.seq (AW.reg cd44_4 fun K hK => ?_)
          simp only [g44_4, bR, Nat.reduceEqDiff, reduceIte, Int.reduceBNe, Int.reduceBEq]
          refine .done (hK _ ?_); clear hK K; simp only [thenQ, blockQ]
          refine AW.ret ?_
          simp only [blockQ, thenQ, bR, Nat.reduceEqDiff, reduceIte, Int.reduceBNe, Int.reduceBEq]
          rw [all_false i hlt]
          · simp
          · simp only [inR, hb, Bool.false_and]
        · cases h
      · simp only [useR, inB_nat 1 m hlt rfl, atL_g m hlt, okR, bR, Nat.reduceEqDiff, reduceIte, Int.reduceBNe, Int.reduceBEq]
        refine .done (hK _ ?_); clear hK K; simp only [thenQ, blockQ]
        refine AW.ite ?_
        simp only [condQ, bR, Nat.reduceEqDiff, reduceIte, Int.reduceBNe, Int.reduceBEq]
        refine ⟨fun h => ?_, fun h => ?_⟩
        · refine AW.seq (AW.reg cd44_4 fun K hK => ?_)
          simp only [g44_4, bR, Nat.reduceEqDiff, reduceIte, Int.reduceBNe, Int.reduceBEq]
          refine .done (hK _ ?_); clear hK K; simp only [thenQ, blockQ]
          refine AW.ret ?_
          simp only [blockQ, thenQ, bR, Nat.reduceEqDiff, reduceIte, Int.reduceBNe, Int.reduceBEq]
          rw [all_false i hlt]
          · simp
          · simp only [inR, hb, Bool.true_and, bit, band, shl]
            simpa using h
        · refine AW.skip ?_; simp only [thenQ, blockQ, reduceIte, Nat.reduceEqDiff]
          refine AW.reg cd44_5 fun K hK => ?_
          simp only [g44_5, bR, Nat.reduceEqDiff, reduceIte, Int.reduceBNe, Int.reduceBEq]
          refine .done (hK _ ?_); clear hK K; simp only [thenQ, blockQ]
          refine ⟨i + 1, ⟨by omega, fun k hk => ?_⟩, by omega, ?_⟩
          · by_cases hk' : k = i
            · subst hk'
              simp only [inR, hb, Bool.true_and, bit, band, shl]
              simpa using h
            · exact hi.2 k (by omega)
          · rw [wrap_id _ (by omega) (by omega)]
            refine Sub.of_lists ?_ ?_ ?_ ?_ <;> simp [subT, subO, onlyT, onlyO, isIn, look_cons, lookO_cons, lookO_nil, AV.only, AV.onlys, AO.only, onlys_map, onlys_append, e_only, e_int, e_bool]
    · have hge : i = 5 := by simp at h; omega
      subst hge
      refine AW.exit ?_; simp only [thenQ, blockQ, reduceIte, Nat.reduceEqDiff]
      refine AW.seq (AW.reg cd44_6 fun K hK => ?_)
      simp only [g44_6, bR, Nat.reduceEqDiff, reduceIte, Int.reduceBNe, Int.reduceBEq]
      refine .done (hK _ ?_); clear hK K; simp only [thenQ, blockQ]
      refine AW.ret ?_
      simp only [blockQ, thenQ, bR, Nat.reduceEqDiff, reduceIte, Int.reduceBNe, Int.reduceBEq]
      rw [all_true hi.2]
      simp

theorem F16 (a b : List Int) : Ctr Try.prog 16 [enc a, enc b] (enc (decide (a = b))) := by
  refine Ctr.mk' Try.func16 ca16 cc16 cr16 (Nat.le_of_ble_eq_true rfl) (fun hwf W0 D0 E1 => ?_)
  simp only [c16, r16, idx, Nat.zero_add, Nat.reduceAdd]
  have hlen : a.length ≤ maxLen := ((wf_list a).1 hwf.1).1
  simp only [maxLen] at hlen
  refine AW.seq (AW.reg cd16_0 fun K hK => ?_)
  simp only [g16_0, bR, Nat.reduceEqDiff, reduceIte, Int.reduceBNe, Int.reduceBEq]
  refine .done (hK _ ?_); clear hK K; simp only [thenQ, blockQ]
  refine AW.seq (AW.seq ?_)
  refine AW.reg cd16_1 fun K hK => ?_
  simp only [g16_1, bR, Nat.reduceEqDiff, reduceIte, Int.reduceBNe, Int.reduceBEq]
  simp only [useR, bR, Nat.reduceEqDiff, reduceIte, Int.reduceBNe, Int.reduceBEq]
  refine .done (hK _ ?_); clear hK K; simp only [thenQ, blockQ]
  refine AW.ite ?_
  simp only [condQ, bR, Nat.reduceEqDiff, reduceIte, Int.reduceBNe, Int.reduceBEq]
  refine ⟨fun h => ?_, fun h => ?_⟩
  · refine AW.seq (AW.reg cd16_2 fun K hK => ?_)
    simp only [g16_2, bR, Nat.reduceEqDiff, reduceIte, Int.reduceBNe, Int.reduceBEq]
    refine .done (hK _ ?_); clear hK K; simp only [thenQ, blockQ]
    refine AW.ret ?_
    simp only [blockQ, thenQ, bR, Nat.reduceEqDiff, reduceIte, Int.reduceBNe, Int.reduceBEq]
    simp at h
    have : a ≠ b := fun e => h (by rw [e])
    simp [this]
  · have hab : a.length = b.length := by simp at h; omega
    refine AW.skip ?_; simp only [thenQ, blockQ, reduceIte, Nat.reduceEqDiff]
    refine AW.seq ?_
    refine AW.seq (AW.reg cd16_3 fun K hK => ?_)
    simp only [g16_3, bR, Nat.reduceEqDiff, reduceIte, Int.reduceBNe, Int.reduceBEq]
    refine .done (hK _ ?_); clear hK K; simp only [thenQ, blockQ]
    refine AW.block (AW.loop (fun i : Nat => mkA [(0, enc a), (1, enc b), (5, .int .i64 i)] []) (fun i => i ≤ a.length ∧ a.take i = b.take i) (fun i => a.length - i) 0 ⟨Nat.zero_le _, by simp⟩ ?_ (fun i hi => ?_))
    · refine Sub.of_lists ?_ ?_ ?_ ?_ <;> simp [subT, subO, onlyT, onlyO, isIn, look_cons, lookO_cons, lookO_nil, AV.only, AV.onlys, AO.only, onlys_map, onlys_append, e_only, e_int, e_bool]
    · refine AW.seq (AW.seq ?_)
      refine AW.reg cd16_4 fun K hK => ?_
      simp only [g16_4, bR, Nat.reduceEqDiff, reduceIte, Int.reduceBNe, Int.reduceBEq]
      simp only [useR, bR, Nat.reduceEqDiff, reduceIte, Int.reduceBNe, Int.reduceBEq]
      refine .done (hK _ ?_); clear hK K; simp only [thenQ, blockQ]
      refine AW.ite ?_
      simp only [condQ, bR, Nat.reduceEqDiff, reduceIte, Int.reduceBNe, Int.reduceBEq]
      refine ⟨fun h => ?_, fun h => ?_⟩
      · have hlt : i < a.length := by simpa using h
        have hlb : i < b.length := by omega
        refine AW.skip ?_; simp only [thenQ, blockQ, reduceIte, Nat.reduceEqDiff]
        refine AW.seq (AW.block ?_)
        refine AW.seq (AW.reg cd16_5 fun K hK => ?_)
        simp only [g16_5, bR, Nat.reduceEqDiff, reduceIte, Int.reduceBNe, Int.reduceBEq]
        simp only [isE_nat 1 hlt rfl, isE_nat 1 hlb rfl, okR, bR, Nat.reduceEqDiff, reduceIte, Int.reduceBNe, Int.reduceBEq]
        refine .done (hK _ ?_); clear hK K; simp only [thenQ, blockQ]
        refine AW.ite ?_
        simp only [condQ, bR, Nat.reduceEqDiff, reduceIte, Int.reduceBNe, Int.reduceBEq]
        refine ⟨fun h => ?_, fun h => ?_⟩
        · refine AW.seq (AW.reg cd16_6 fun K hK => ?_)
          simp only [g16_6, bR, Nat.reduceEqDiff, reduceIte, Int.reduceBNe, Int.reduceBEq]
          refine .done (hK _ ?_); clear hK K; simp only [thenQ, blockQ]
          refine AW.ret ?_
          simp only [blockQ, thenQ, bR, Nat.reduceEqDiff, reduceIte, Int.reduceBNe, Int.reduceBEq]
          have hne : a ≠ b := fun e => by subst e; simp at h
          simp [hne]
        · refine AW.skip ?_; simp only [thenQ, blockQ, reduceIte, Nat.reduceEqDiff]
          refine AW.reg cd16_7 fun K hK => ?_
          simp only [g16_7, bR, Nat.reduceEqDiff, reduceIte, Int.reduceBNe, Int.reduceBEq]
          refine .done (hK _ ?_); clear hK K; simp only [thenQ, blockQ]
          refine ⟨i + 1, ⟨by omega, ?_⟩, by omega, ?_⟩
          · rw [List.take_succ_eq_append_getElem hlt, List.take_succ_eq_append_getElem hlb, hi.2]
            simp at h
            rw [h]
          · rw [wrap_id _ (by omega) (by omega)]
            refine Sub.of_lists ?_ ?_ ?_ ?_ <;> simp [subT, subO, onlyT, onlyO, isIn, look_cons, lookO_cons, lookO_nil, AV.only, AV.onlys, AO.only, onlys_map, onlys_append, e_only, e_int, e_bool]
      · have hge : i = a.length := by simp at h; omega
        refine AW.exit ?_; simp only [thenQ, blockQ, reduceIte, Nat.reduceEqDiff]
        refine AW.seq (AW.reg cd16_8 fun K hK => ?_)
        simp only [g16_8, bR, Nat.reduceEqDiff, reduceIte, Int.reduceBNe, Int.reduceBEq]
        refine .done (hK _ ?_); clear hK K; simp only [thenQ, blockQ]
        refine AW.ret ?_
        simp only [blockQ, thenQ, bR, Nat.reduceEqDiff, reduceIte, Int.reduceBNe, Int.reduceBEq]
        have : a = b := by
          have := hi.2
          rw [hge, List.take_length] at this
          rw [hab, List.take_length] at this
          exact this
        simp [this]

end Go.Proofs.Ytkjkbpgdpnapfaa

/-
  THE PROGRAM'S DATA AS ABSTRACT VALUES: a given mark, a book of marks. And small functions by contract: index, worn, meets, within, has, isSet.
-/
namespace Go.Proofs.Ytkjkbpgdpnapfaa
open Go Go.Abs
open Go.Abs.Enc (enc)

structure Given where
  owner : Int
  mark : Arr 6 Int

instance : Enc Given where
  enc g := .agg [.int .i64 g.owner, enc g.mark]
  sz := 7
  sh := .many [.one, .many (List.replicate 6 .one)]
  isA := true
  done g := by simp only [AV.done, AV.dones, Enc.done, Bool.and_self]
  size g := by simp only [AV.size, AV.sizes, e_size, e_szArr, e_szInt]
  shp g := by simp only [AV.sh, AV.shs, e_sh, e_shArr, e_shInt]
  agg _ := rfl

structure Marks where
  wear : Arr 5 Int
  fls : Int
  given : List Given

instance : Enc Marks where
  enc m := .agg [enc m.wear, .int .i64 m.fls, enc m.given]
  sz := 7
  sh := .many [.many (List.replicate 5 .one), .one, .one]
  isA := true
  done m := by simp only [AV.done, AV.dones, Enc.done, Bool.and_self]
  size m := by simp only [AV.size, AV.sizes, e_size, e_szArr, e_szInt, e_szList]
  shp m := by simp only [AV.sh, AV.shs, e_sh, e_shArr, e_shInt, e_shList]
  agg _ := rfl

theorem offR_eq {fs : List AV} {f off : Nat} {v : AV} (h1 : f < fs.length) (h : AV.sizes (fs.take f) = off) : offR fs f off v = some v := by simp [offR, h, h1]
theorem typR :
    (∀ m : Marks, (enc m).flds = some [enc m.wear, .int .i64 m.fls, enc m.given]) ∧ (∀ g : Given, (enc g).flds = some [.int .i64 g.owner, enc g.mark]) ∧
    (∀ (w : Arr 5 Int) (n : Int) (g : List Given) v, offR [enc w, .int .i64 n, enc g] 0 0 v = some v) ∧ (∀ (w : Arr 5 Int) (n : Int) (g : List Given) v, offR [enc w, .int .i64 n, enc g] 1 5 v = some v) ∧ (∀ (w : Arr 5 Int) (n : Int) (g : List Given) v, offR [enc w, .int .i64 n, enc g] 2 6 v = some v) ∧
    (∀ (n : Int) (m : Arr 6 Int) v, offR [.int .i64 n, enc m] 0 0 v = some v) ∧ (∀ (n : Int) (m : Arr 6 Int) v, offR [.int .i64 n, enc m] 1 1 v = some v) ∧
    (∀ (g : List Given), okLd none (enc g) = true) ∧ (∀ (g : List Int), okLd none (enc g) = true) ∧ (∀ (g : Arr 5 Int), okLd (some 5) (enc g) = true) ∧ (∀ (g : Arr 6 Int), okLd (some 6) (enc g) = true) ∧ (∀ (g : Given), okLd (some 7) (enc g) = true) ∧ (∀ (g : Marks), okLd (some 7) (enc g) = true) ∧
    (∀ (fs : List AV) x, (x :: fs)[0]? = some x) ∧ (∀ (fs : List AV) x n, (x :: fs)[n + 1]? = fs[n]?) ∧ (∀ (fs : List AV) x, (x :: fs)[1]? = fs[0]?) ∧ (∀ (fs : List AV) x, (x :: fs)[2]? = fs[1]?) :=
  ⟨fun _ => rfl, fun _ => rfl, fun _ _ _ _ => offR_eq (Nat.le_of_ble_eq_true rfl) rfl, fun w n g v => offR_eq (Nat.le_of_ble_eq_true rfl) (by simp [AV.sizes, e_size, e_szArr, e_szInt]), fun w n g v => offR_eq (Nat.le_of_ble_eq_true rfl) (by simp [AV.sizes, AV.size, e_size, e_szArr, e_szInt]), fun _ _ _ => offR_eq (Nat.le_of_ble_eq_true rfl) rfl, fun _ _ _ => offR_eq (Nat.le_of_ble_eq_true rfl) (by simp [AV.sizes, AV.size]),
    fun _ => by simp [e_okN, e_isAList], fun _ => by simp [e_okN, e_isAList], fun _ => by simp [e_okS, e_isAArr, e_szArr, e_szInt], fun _ => by simp [e_okS, e_isAArr, e_szArr, e_szInt], fun _ => by rw [e_okS]; rfl, fun _ => by rw [e_okS]; rfl,
    fun _ _ => rfl, fun _ _ _ => rfl, fun _ _ => rfl, fun _ _ => rfl⟩

def idxOf (l : List Given) (o : Int) : Nat → Int
  | i => match l with
    | [] => -1
    | g :: r => if g.owner = o then i else idxOf r o (i + 1)

theorem F89 (n lo hi : Int) : Ctr Try.prog 89 [enc n, enc lo, enc hi] (enc (inR lo hi n)) := by
  refine Ctr.mk' Try.func89 ca89 cc89 cr89 (Nat.le_of_ble_eq_true rfl) (fun hwf W0 D0 E1 => ?_)
  simp only [c89, r89, idx, Nat.zero_add, Nat.reduceAdd]
  refine AW.seq (AW.reg cd89_0 fun K hK => ?_)
  simp only [g89_0, bR, Nat.reduceEqDiff, reduceIte, Int.reduceBNe, Int.reduceBEq]
  refine .done (hK _ ?_); clear hK K; simp only [thenQ, blockQ]
  refine AW.seq (AW.reg cd89_1 fun K hK => ?_)
  simp only [g89_1, bR, Nat.reduceEqDiff, reduceIte, Int.reduceBNe, Int.reduceBEq]
  refine .guard (fun h => ?_) (fun h => ?_)
  · simp only [bR, Nat.reduceEqDiff, reduceIte, Int.reduceBNe, Int.reduceBEq, h]
    refine .done (hK _ ?_); clear hK K; simp only [thenQ, blockQ]
    refine AW.ret ?_
    simp only [blockQ, thenQ, bR, Nat.reduceEqDiff, reduceIte, Int.reduceBNe, Int.reduceBEq]
    simp_all [inR]
  · simp only [bR, Nat.reduceEqDiff, reduceIte, Int.reduceBNe, Int.reduceBEq, h]
    refine .done (hK _ ?_); clear hK K; simp only [thenQ, blockQ]
    refine AW.ret ?_
    simp only [blockQ, thenQ, bR, Nat.reduceEqDiff, reduceIte, Int.reduceBNe, Int.reduceBEq]
    simp at h
    simp [inR]; omega

theorem F117 (n : Int) : Ctr Try.prog 117 [enc n] (enc (inR 0 31 n)) := by
  refine Ctr.mk' Try.func117 ca117 cc117 cr117 (Nat.le_of_ble_eq_true rfl) (fun hwf W0 D0 E1 => ?_)
  simp only [c117, r117, idx, Nat.zero_add, Nat.reduceAdd]
  refine AW.seq (AW.reg cd117_0 fun K hK => ?_)
  simp only [g117_0, bR, Nat.reduceEqDiff, reduceIte, Int.reduceBNe, Int.reduceBEq]
  refine .done (hK _ ?_); clear hK K; simp only [thenQ, blockQ]
  refine AW.seq (AW.reg cd117_1 fun K hK => ?_)
  simp only [g117_1, bR, Nat.reduceEqDiff, reduceIte, Int.reduceBNe, Int.reduceBEq]
  refine .flat _ (F89 n 0 31) rfl ?_
  simp only [bR, Nat.reduceEqDiff, reduceIte, Int.reduceBNe, Int.reduceBEq]
  refine .done (hK _ ?_); clear hK K; simp only [thenQ, blockQ]
  refine AW.ret ?_
  simp only [blockQ, thenQ, bR, Nat.reduceEqDiff, reduceIte, Int.reduceBNe, Int.reduceBEq]

theorem F78 (a b : Int) : Ctr Try.prog 78 [enc a, enc b] (enc (band a b != 0)) := by
  refine Ctr.mk' Try.func78 ca78 cc78 cr78 (Nat.le_of_ble_eq_true rfl) (fun hwf W0 D0 E1 => ?_)
  simp only [c78, r78, idx, Nat.zero_add, Nat.reduceAdd]
  refine AW.seq (AW.reg cd78_0 fun K hK => ?_)
  simp only [g78_0, bR, Nat.reduceEqDiff, reduceIte, Int.reduceBNe, Int.reduceBEq]
  refine .done (hK _ ?_); clear hK K; simp only [thenQ, blockQ]
  refine AW.seq (AW.reg cd78_1 fun K hK => ?_)
  simp only [g78_1, bR, Nat.reduceEqDiff, reduceIte, Int.reduceBNe, Int.reduceBEq]
  refine .done (hK _ ?_); clear hK K; simp only [thenQ, blockQ]
  refine AW.ret ?_
  simp only [blockQ, thenQ, bR, Nat.reduceEqDiff, reduceIte, Int.reduceBNe, Int.reduceBEq]
  rfl

theorem F77 (w : Arr 5 Int) (m : Arr 6 Int) (i : Nat) (hi : i < 6) (h0 : 0 ≤ m.g i) (h5 : m.g i < 5) : Ctr Try.prog 77 [enc w, enc m, enc (i : Int)] (enc (w.g (m.g i).toNat)) := by
  refine Ctr.mk' Try.func77 ca77 cc77 cr77 (Nat.le_of_ble_eq_true rfl) (fun hwf W0 D0 E1 => ?_)
  simp only [c77, r77, idx, Nat.zero_add, Nat.reduceAdd]
  refine AW.seq (AW.reg cd77_0 fun K hK => ?_)
  simp only [g77_0, bR, Nat.reduceEqDiff, reduceIte, Int.reduceBNe, Int.reduceBEq]
  refine .done (hK _ ?_); clear hK K; simp only [thenQ, blockQ]
  refine AW.seq (AW.reg cd77_1 fun K hK => ?_)
  simp only [g77_1, bR, Nat.reduceEqDiff, reduceIte, Int.reduceBNe, Int.reduceBEq]
  have hk : (m.g i).toNat < 5 := by omega
  simp only [useR, inB_nat 1 m hi rfl, atL_g m hi, okR, bR, Nat.reduceEqDiff, reduceIte, Int.reduceBNe, Int.reduceBEq]
  simp only [useR, inB_int 1 w ⟨h0, h5⟩ rfl, atL_g w hk, okR, bR, Nat.reduceEqDiff, reduceIte, Int.reduceBNe, Int.reduceBEq]
  refine .done (hK _ ?_); clear hK K; simp only [thenQ, blockQ]
  refine AW.ret ?_
  simp only [blockQ, thenQ, bR, Nat.reduceEqDiff, reduceIte, Int.reduceBNe, Int.reduceBEq]

end Go.Proofs.Ytkjkbpgdpnapfaa

/-
  FUNCTIONS OF THE REFERENCE BY CONTRACT: index, distance.
-/
namespace Go.Proofs.Ytkjkbpgdpnapfaa
open Go Go.Abs
open Go.Abs.Enc (enc)

def cnt (p : Nat → Bool) : Nat → Nat
  | 0 => 0
  | n + 1 => cnt p n + if p n then 1 else 0
theorem cnt_le (p : Nat → Bool) : ∀ n, cnt p n ≤ n
  | 0 => Nat.le_refl _
  | n + 1 => by have := cnt_le p n; simp only [cnt]; split <;> omega

/-- Where in the book an owner's mark lies; -1: nowhere. -/
def indexOf (l : List Given) (o : Int) : Int := match l.findIdx? fun g => g.owner == o with
  | some i => i
  | none => -1

theorem F80 (m : Marks) (o : Int) : Ctr Try.prog 80 [enc m, enc o] (enc (indexOf m.given o)) := by
  refine Ctr.mk' Try.func80 ca80 cc80 cr80 (Nat.le_of_ble_eq_true rfl) (fun hwf W0 D0 E1 => ?_)
  simp only [c80, r80, idx, Nat.zero_add, Nat.reduceAdd]
  have hlen : m.given.length ≤ maxLen := ((wf_list m.given).1 hwf.1.2.2.1).1
  simp only [maxLen] at hlen
  refine AW.seq (AW.reg cd80_0 fun K hK => ?_)
  simp only [g80_0, bR, Nat.reduceEqDiff, reduceIte, Int.reduceBNe, Int.reduceBEq]
  refine .done (hK _ ?_); clear hK K; simp only [thenQ, blockQ]
  refine AW.seq ?_
  refine AW.seq (AW.reg cd80_1 fun K hK => ?_)
  simp only [g80_1, bR, Nat.reduceEqDiff, reduceIte, Int.reduceBNe, Int.reduceBEq]
  refine .done (hK _ ?_); clear hK K; simp only [thenQ, blockQ]
  refine AW.block (AW.loop (fun i : Nat => mkA [(1, .int .i64 o), (2, .ptr 2 []), (5, .int .i64 i)] [(2, .box (enc m))]) (fun i => i ≤ m.given.length ∧ ∀ k (h : k < m.given.length), k < i → m.given[k].owner ≠ o) (fun i => m.given.length - i) 0 ⟨by omega, fun k _ h => by omega⟩ ?_ (fun i hi => ?_))
  · refine Sub.of_lists ?_ ?_ ?_ ?_ <;> simp [subT, subO, onlyT, onlyO, isIn, look_cons, lookO_cons, lookO_nil, AV.only, AV.onlys, AO.only, onlys_map, onlys_append, e_only, e_int, e_bool]
  · refine AW.seq (AW.seq ?_)
    refine AW.reg cd80_2 fun K hK => ?_
    simp only [g80_2, bR, Nat.reduceEqDiff, reduceIte, Int.reduceBNe, Int.reduceBEq]
    simp only [typR, useR, okR, bR, Nat.reduceEqDiff, reduceIte, Int.reduceBNe, Int.reduceBEq]
    refine .done (hK _ ?_); clear hK K; simp only [thenQ, blockQ]
    refine AW.ite ?_
    simp only [condQ, bR, Nat.reduceEqDiff, reduceIte, Int.reduceBNe, Int.reduceBEq]
    refine ⟨fun h => ?_, fun h => ?_⟩
    · have hlt : i < m.given.length := by simpa using h
      refine AW.skip ?_; simp only [thenQ, blockQ, reduceIte, Nat.reduceEqDiff]
      refine AW.seq (AW.block ?_)
      refine AW.seq (AW.reg cd80_3 fun K hK => ?_)
      simp only [g80_3, bR, Nat.reduceEqDiff, reduceIte, Int.reduceBNe, Int.reduceBEq]
      simp only [typR, useR, okR, isE_nat 7 hlt rfl, bR, Nat.reduceEqDiff, reduceIte, Int.reduceBNe, Int.reduceBEq]
      refine .done (hK _ ?_); clear hK K; simp only [thenQ, blockQ]
      refine AW.ite ?_
      simp only [condQ, bR, Nat.reduceEqDiff, reduceIte, Int.reduceBNe, Int.reduceBEq]
      refine ⟨fun h => ?_, fun h => ?_⟩
      · refine AW.seq (AW.reg cd80_4 fun K hK => ?_)
        simp only [g80_4, bR, Nat.reduceEqDiff, reduceIte, Int.reduceBNe, Int.reduceBEq]
        refine .done (hK _ ?_); clear hK K; simp only [thenQ, blockQ]
        refine AW.ret ?_
        simp only [blockQ, thenQ, bR, Nat.reduceEqDiff, reduceIte, Int.reduceBNe, Int.reduceBEq]
        have : m.given.findIdx? (fun g => g.owner == o) = some i := by
          rw [List.findIdx?_eq_some_iff_getElem]
          refine ⟨hlt, by simpa using h, fun j hj => ?_⟩
          have := hi.2 j (by omega) hj
          simpa using this
        simp [indexOf, this]
      · refine AW.skip ?_; simp only [thenQ, blockQ, reduceIte, Nat.reduceEqDiff]
        refine AW.reg cd80_5 fun K hK => ?_
        simp only [g80_5, bR, Nat.reduceEqDiff, reduceIte, Int.reduceBNe, Int.reduceBEq]
        refine .done (hK _ ?_); clear hK K; simp only [thenQ, blockQ]
        refine ⟨i + 1, ⟨by omega, fun k hk hki => ?_⟩, by omega, ?_⟩
        · by_cases hk' : k = i
          · subst hk'; simpa using h
          · exact hi.2 k hk (by omega)
        · rw [wrap_id _ (by omega) (by omega)]
          refine Sub.of_lists ?_ ?_ ?_ ?_ <;> simp [subT, subO, onlyT, onlyO, isIn, look_cons, lookO_cons, lookO_nil, AV.only, AV.onlys, AO.only, onlys_map, onlys_append, e_only, e_int, e_bool]
    · have hge : i = m.given.length := by simp at h; omega
      refine AW.exit ?_; simp only [thenQ, blockQ, reduceIte, Nat.reduceEqDiff]
      refine AW.seq (AW.reg cd80_6 fun K hK => ?_)
      simp only [g80_6, bR, Nat.reduceEqDiff, reduceIte, Int.reduceBNe, Int.reduceBEq]
      refine .done (hK _ ?_); clear hK K; simp only [thenQ, blockQ]
      refine AW.ret ?_
      simp only [blockQ, thenQ, bR, Nat.reduceEqDiff, reduceIte, Int.reduceBNe, Int.reduceBEq]
      have : m.given.findIdx? (fun g => g.owner == o) = none := by
        rw [List.findIdx?_eq_none_iff]
        intro x hx
        obtain ⟨k, hk, rfl⟩ := List.getElem_of_mem hx
        simpa using hi.2 k hk (by omega)
      simp [indexOf, this]

/-- Whether a place of two marks differs under a wear. -/
def apartAt (w : Arr 5 Int) (a b : Arr 6 Int) (i : Nat) : Bool := band (w.g (a.g i).toNat) (w.g (b.g i).toNat) == 0
def okMark (m : Arr 6 Int) : Bool := (List.range 6).all fun i => inR 0 4 (m.g i)
theorem okMark_at {m : Arr 6 Int} (h : okMark m = true) {i : Nat} (hi : i < 6) : 0 ≤ m.g i ∧ m.g i < 5 := by
  simp only [okMark, List.all_eq_true, List.mem_range] at h
  have := h i hi
  simp [inR] at this
  omega

theorem F99 (w : Arr 5 Int) (a b : Arr 6 Int) (ha : okMark a = true) (hb : okMark b = true) : Ctr Try.prog 99 [enc w, enc a, enc b] (enc (cnt (apartAt w a b) 6 : Int)) := by
  refine Ctr.mk' Try.func99 ca99 cc99 cr99 (Nat.le_of_ble_eq_true rfl) (fun hwf W0 D0 E1 => ?_)
  simp only [c99, r99, idx, Nat.zero_add, Nat.reduceAdd]
  refine AW.seq (AW.reg cd99_0 fun K hK => ?_)
  simp only [g99_0, bR, Nat.reduceEqDiff, reduceIte, Int.reduceBNe, Int.reduceBEq]
  refine .done (hK _ ?_); clear hK K; simp only [thenQ, blockQ]
  refine AW.seq (AW.reg cd99_1 fun K hK => ?_)
  simp only [g99_1, bR, Nat.reduceEqDiff, reduceIte, Int.reduceBNe, Int.reduceBEq]
  refine .done (hK _ ?_); clear hK K; simp only [thenQ, blockQ]
  refine AW.seq (AW.seq ?_)
  refine AW.reg cd99_2 fun K hK => ?_
  simp only [g99_2, bR, Nat.reduceEqDiff, reduceIte, Int.reduceBNe, Int.reduceBEq]
  refine .done (hK _ ?_); clear hK K; simp only [thenQ, blockQ]
  refine AW.block (AW.loop (fun i : Nat => mkA [(3, .ptr 3 []), (4, .ptr 4 []), (5, .ptr 5 []), (7, .int .i64 (cnt (apartAt w a b) i)), (8, .int .i64 i)] [(3, .box (enc w)), (4, .box (enc a)), (5, .box (enc b))]) (fun i => i ≤ 6) (fun i => 6 - i) 0 (by omega) ?_ (fun i hi => ?_))
  · simp only [cnt]
    refine Sub.of_lists ?_ ?_ ?_ ?_ <;> simp [subT, subO, onlyT, onlyO, isIn, look_cons, lookO_cons, lookO_nil, AV.only, AV.onlys, AO.only, onlys_map, onlys_append, e_only, e_int, e_bool]
  · have hc := cnt_le (apartAt w a b) i
    refine AW.seq (AW.seq ?_)
    refine AW.reg cd99_3 fun K hK => ?_
    simp only [g99_3, bR, Nat.reduceEqDiff, reduceIte, Int.reduceBNe, Int.reduceBEq]
    refine .done (hK _ ?_); clear hK K; simp only [thenQ, blockQ]
    refine AW.ite ?_
    simp only [condQ, bR, Nat.reduceEqDiff, reduceIte, Int.reduceBNe, Int.reduceBEq]
    refine ⟨fun h => ?_, fun h => ?_⟩
    · have hlt : i < 6 := by simp at h; omega
      have h1 := okMark_at ha hlt
      have h2 := okMark_at hb hlt
      refine AW.skip ?_; simp only [thenQ, blockQ, reduceIte, Nat.reduceEqDiff]
      refine AW.seq (AW.block ?_)
      refine AW.seq (AW.reg cd99_4 fun K hK => ?_)
      simp only [g99_4, bR, Nat.reduceEqDiff, reduceIte, Int.reduceBNe, Int.reduceBEq]
      have k1 : (a.g i).toNat < 5 := by omega
      have k2 : (b.g i).toNat < 5 := by omega
      simp only [useR, inB_nat 1 a hlt rfl, atL_g a hlt, okR, bR, Nat.reduceEqDiff, reduceIte, Int.reduceBNe, Int.reduceBEq]
      simp only [useR, inB_int 1 w h1 rfl, atL_g w k1, okR, bR, Nat.reduceEqDiff, reduceIte, Int.reduceBNe, Int.reduceBEq]
      simp only [useR, inB_nat 1 b hlt rfl, atL_g b hlt, okR, bR, Nat.reduceEqDiff, reduceIte, Int.reduceBNe, Int.reduceBEq]
      simp only [useR, inB_int 1 w h2 rfl, atL_g w k2, okR, bR, Nat.reduceEqDiff, reduceIte, Int.reduceBNe, Int.reduceBEq]
      refine .done (hK _ ?_); clear hK K; simp only [thenQ, blockQ]
      refine AW.ite ?_
      simp only [condQ, bR, Nat.reduceEqDiff, reduceIte, Int.reduceBNe, Int.reduceBEq]
      refine ⟨fun h => ?_, fun h => ?_⟩
      · have hap : apartAt w a b i = true := h
        refine AW.reg cd99_5 fun K hK => ?_
        simp only [g99_5, bR, Nat.reduceEqDiff, reduceIte, Int.reduceBNe, Int.reduceBEq]
        refine .done (hK _ ?_); clear hK K; simp only [thenQ, blockQ]
        refine AW.reg cd99_6 fun K hK => ?_
        simp only [g99_6, bR, Nat.reduceEqDiff, reduceIte, Int.reduceBNe, Int.reduceBEq]
        refine .done (hK _ ?_); clear hK K; simp only [thenQ, blockQ]
        refine ⟨i + 1, by omega, by omega, ?_⟩
        rw [wrap_id _ (by omega) (by omega), wrap_id _ (by omega) (by omega)]
        simp only [cnt, hap, if_true]
        refine Sub.of_lists ?_ ?_ ?_ ?_ <;> simp [subT, subO, onlyT, onlyO, isIn, look_cons, lookO_cons, lookO_nil, AV.only, AV.onlys, AO.only, onlys_map, onlys_append, e_only, e_int, e_bool]
      · have hap : apartAt w a b i = false := h
        refine AW.skip ?_; simp only [thenQ, blockQ, reduceIte, Nat.reduceEqDiff]
        refine AW.reg cd99_6 fun K hK => ?_
        simp only [g99_6, bR, Nat.reduceEqDiff, reduceIte, Int.reduceBNe, Int.reduceBEq]
        refine .done (hK _ ?_); clear hK K; simp only [thenQ, blockQ]
        refine ⟨i + 1, by omega, by omega, ?_⟩
        rw [wrap_id _ (by omega) (by omega)]
        simp only [cnt, hap, Bool.false_eq_true, if_false]
        refine Sub.of_lists ?_ ?_ ?_ ?_ <;> simp [subT, subO, onlyT, onlyO, isIn, look_cons, lookO_cons, lookO_nil, AV.only, AV.onlys, AO.only, onlys_map, onlys_append, e_only, e_int, e_bool]
    · have hge : i = 6 := by simp at h; omega
      subst hge
      refine AW.exit ?_; simp only [thenQ, blockQ, reduceIte, Nat.reduceEqDiff]
      refine AW.seq (AW.reg cd99_7 fun K hK => ?_)
      simp only [g99_7, bR, Nat.reduceEqDiff, reduceIte, Int.reduceBNe, Int.reduceBEq]
      refine .done (hK _ ?_); clear hK K; simp only [thenQ, blockQ]
      refine AW.ret ?_
      simp only [blockQ, thenQ, bR, Nat.reduceEqDiff, reduceIte, Int.reduceBNe, Int.reduceBEq]

end Go.Proofs.Ytkjkbpgdpnapfaa

/-
  FUNCTIONS OF THE REFERENCE BY CONTRACT: cost, owners, near.
-/
namespace Go.Proofs.Ytkjkbpgdpnapfaa
open Go Go.Abs
open Go.Abs.Enc (enc)

def costAt (w : Arr 5 Int) (a : Arr 6 Int) (r : Arr 6 Int) (i : Nat) : Bool := band (w.g (a.g i).toNat) (r.g i) == 0
def costOf (w : Arr 5 Int) (a r : Arr 6 Int) : Int := (cnt (costAt w a r) 6 : Int)

theorem F86 (w : Arr 5 Int) (a b : Arr 6 Int) (ha : okMark a = true) : Ctr Try.prog 86 [enc w, enc a, enc b] (enc (costOf w a b)) := by
  refine Ctr.mk' Try.func86 ca86 cc86 cr86 (Nat.le_of_ble_eq_true rfl) (fun hwf W0 D0 E1 => ?_)
  simp only [c86, r86, idx, Nat.zero_add, Nat.reduceAdd]
  refine AW.seq (AW.reg cd86_0 fun K hK => ?_)
  simp only [g86_0, bR, Nat.reduceEqDiff, reduceIte, Int.reduceBNe, Int.reduceBEq]
  refine .done (hK _ ?_); clear hK K; simp only [thenQ, blockQ]
  refine AW.seq (AW.reg cd86_1 fun K hK => ?_)
  simp only [g86_1, bR, Nat.reduceEqDiff, reduceIte, Int.reduceBNe, Int.reduceBEq]
  refine .done (hK _ ?_); clear hK K; simp only [thenQ, blockQ]
  refine AW.seq (AW.seq ?_)
  refine AW.reg cd86_2 fun K hK => ?_
  simp only [g86_2, bR, Nat.reduceEqDiff, reduceIte, Int.reduceBNe, Int.reduceBEq]
  refine .done (hK _ ?_); clear hK K; simp only [thenQ, blockQ]
  refine AW.block (AW.loop (fun i : Nat => mkA [(3, .ptr 3 []), (4, .ptr 4 []), (5, .ptr 5 []), (7, .int .i64 (cnt (costAt w a b) i)), (8, .int .i64 i)] [(3, .box (enc w)), (4, .box (enc a)), (5, .box (enc b))]) (fun i => i ≤ 6) (fun i => 6 - i) 0 (by omega) ?_ (fun i hi => ?_))
  · simp only [cnt]
    refine Sub.of_lists ?_ ?_ ?_ ?_ <;> simp [subT, subO, onlyT, onlyO, isIn, look_cons, lookO_cons, lookO_nil, AV.only, AV.onlys, AO.only, onlys_map, onlys_append, e_only, e_int, e_bool]
  · have hc := cnt_le (costAt w a b) i
    refine AW.seq (AW.seq ?_)
    refine AW.reg cd86_3 fun K hK => ?_
    simp only [g86_3, bR, Nat.reduceEqDiff, reduceIte, Int.reduceBNe, Int.reduceBEq]
    refine .done (hK _ ?_); clear hK K; simp only [thenQ, blockQ]
    refine AW.ite ?_
    simp only [condQ, bR, Nat.reduceEqDiff, reduceIte, Int.reduceBNe, Int.reduceBEq]
    refine ⟨fun h => ?_, fun h => ?_⟩
    · have hlt : i < 6 := by simp at h; omega
      have h1 := okMark_at ha hlt
      refine AW.skip ?_; simp only [thenQ, blockQ, reduceIte, Nat.reduceEqDiff]
      refine AW.seq (AW.block ?_)
      refine AW.seq (AW.reg cd86_4 fun K hK => ?_)
      simp only [g86_4, bR, Nat.reduceEqDiff, reduceIte, Int.reduceBNe, Int.reduceBEq]
      have k1 : (a.g i).toNat < 5 := by omega
      simp only [useR, inB_nat 1 a hlt rfl, atL_g a hlt, okR, bR, Nat.reduceEqDiff, reduceIte, Int.reduceBNe, Int.reduceBEq]
      simp only [useR, inB_int 1 w h1 rfl, atL_g w k1, okR, bR, Nat.reduceEqDiff, reduceIte, Int.reduceBNe, Int.reduceBEq]
      simp only [useR, inB_nat 1 b hlt rfl, atL_g b hlt, okR, bR, Nat.reduceEqDiff, reduceIte, Int.reduceBNe, Int.reduceBEq]
      refine .done (hK _ ?_); clear hK K; simp only [thenQ, blockQ]
      refine AW.ite ?_
      simp only [condQ, bR, Nat.reduceEqDiff, reduceIte, Int.reduceBNe, Int.reduceBEq]
      refine ⟨fun h => ?_, fun h => ?_⟩
      · have hap : costAt w a b i = true := h
        refine AW.reg cd86_5 fun K hK => ?_
        simp only [g86_5, bR, Nat.reduceEqDiff, reduceIte, Int.reduceBNe, Int.reduceBEq]
        refine .done (hK _ ?_); clear hK K; simp only [thenQ, blockQ]
        refine AW.reg cd86_6 fun K hK => ?_
        simp only [g86_6, bR, Nat.reduceEqDiff, reduceIte, Int.reduceBNe, Int.reduceBEq]
        refine .done (hK _ ?_); clear hK K; simp only [thenQ, blockQ]
        refine ⟨i + 1, by omega, by omega, ?_⟩
        rw [wrap_id _ (by omega) (by omega), wrap_id _ (by omega) (by omega)]
        simp only [cnt, hap, if_true]
        refine Sub.of_lists ?_ ?_ ?_ ?_ <;> simp [subT, subO, onlyT, onlyO, isIn, look_cons, lookO_cons, lookO_nil, AV.only, AV.onlys, AO.only, onlys_map, onlys_append, e_only, e_int, e_bool]
      · have hap : costAt w a b i = false := h
        refine AW.skip ?_; simp only [thenQ, blockQ, reduceIte, Nat.reduceEqDiff]
        refine AW.reg cd86_6 fun K hK => ?_
        simp only [g86_6, bR, Nat.reduceEqDiff, reduceIte, Int.reduceBNe, Int.reduceBEq]
        refine .done (hK _ ?_); clear hK K; simp only [thenQ, blockQ]
        refine ⟨i + 1, by omega, by omega, ?_⟩
        rw [wrap_id _ (by omega) (by omega)]
        simp only [cnt, hap, Bool.false_eq_true, if_false]
        refine Sub.of_lists ?_ ?_ ?_ ?_ <;> simp [subT, subO, onlyT, onlyO, isIn, look_cons, lookO_cons, lookO_nil, AV.only, AV.onlys, AO.only, onlys_map, onlys_append, e_only, e_int, e_bool]
    · have hge : i = 6 := by simp at h; omega
      subst hge
      refine AW.exit ?_; simp only [thenQ, blockQ, reduceIte, Nat.reduceEqDiff]
      refine AW.seq (AW.reg cd86_7 fun K hK => ?_)
      simp only [g86_7, bR, Nat.reduceEqDiff, reduceIte, Int.reduceBNe, Int.reduceBEq]
      refine .done (hK _ ?_); clear hK K; simp only [thenQ, blockQ]
      refine AW.ret ?_
      simp only [blockQ, thenQ, bR, Nat.reduceEqDiff, reduceIte, Int.reduceBNe, Int.reduceBEq]
      rfl

/-- A book that can be reckoned with: not endless, its marks are marks. -/
structure okBook (m : Marks) : Prop where
  len : m.given.length ≤ 1099511627776
  mark : ∀ g ∈ m.given, okMark g.mark = true

def ownersIn (m : Marks) (r : Arr 6 Int) (l : List Given) : List Int := (l.filter fun g => decide (costOf m.wear g.mark r ≤ m.fls)).map (·.owner)
theorem ownersIn_le (m : Marks) (r : Arr 6 Int) (l : List Given) : (ownersIn m r l).length ≤ l.length := by
  simp only [ownersIn, List.length_map]; exact List.length_filter_le _ _

theorem F84 (m : Marks) (r : Arr 6 Int) (hm : okBook m) : Ctr Try.prog 84 [enc m, enc r] (enc (ownersIn m r m.given)) := by
  refine Ctr.mk' Try.func84 ca84 cc84 cr84 (Nat.le_of_ble_eq_true rfl) (fun hwf W0 D0 E1 => ?_)
  simp only [c84, r84, idx, Nat.zero_add, Nat.reduceAdd]
  have hlen := hm.len
  refine AW.seq (AW.reg cd84_0 fun K hK => ?_)
  simp only [g84_0, bR, Nat.reduceEqDiff, reduceIte, Int.reduceBNe, Int.reduceBEq]
  refine .done (hK _ ?_); clear hK K; simp only [thenQ, blockQ]
  refine AW.seq (AW.reg cd84_1 fun K hK => ?_)
  simp only [g84_1, bR, Nat.reduceEqDiff, reduceIte, Int.reduceBNe, Int.reduceBEq]
  refine .done (hK _ ?_); clear hK K; simp only [thenQ, blockQ]
  refine AW.seq (AW.seq ?_)
  refine AW.reg cd84_2 fun K hK => ?_
  simp only [g84_2, bR, Nat.reduceEqDiff, reduceIte, Int.reduceBNe, Int.reduceBEq]
  refine .done (hK _ ?_); clear hK K; simp only [thenQ, blockQ]
  refine AW.block (AW.loop (fun i : Nat => mkA [(2, .ptr 2 []), (3, .ptr 3 []), (5, .own 5 (ownersIn m r (m.given.take i)).length), (6, .int .i64 i)] [(2, .box (enc m)), (3, .box (enc r)), (5, .row 3 1 ((ownersIn m r (m.given.take i)).map enc))]) (fun i => i ≤ m.given.length) (fun i => m.given.length - i) 0 (by omega) ?_ (fun i hi => ?_))
  · refine Sub.adoptL 5 5 3 1 1 ?_ ?_ ?_
    · simp only [absR, Nat.reduceEqDiff, reduceIte]
    · simp only [absR, Nat.reduceEqDiff, reduceIte]
    · simp only [List.take_zero, ownersIn, List.filter_nil, List.map_nil, List.length_nil]
      refine Sub.of_lists ?_ ?_ ?_ ?_ <;> simp [subT, subO, onlyT, onlyO, isIn, look_cons, lookO_cons, lookO_nil, AV.only, AV.onlys, AO.only, onlys_map, onlys_append, e_only, e_int, e_bool]
  · refine AW.seq (AW.seq ?_)
    refine AW.reg cd84_3 fun K hK => ?_
    simp only [g84_3, bR, Nat.reduceEqDiff, reduceIte, Int.reduceBNe, Int.reduceBEq]
    simp only [typR, useR, okR, bR, Nat.reduceEqDiff, reduceIte, Int.reduceBNe, Int.reduceBEq]
    refine .done (hK _ ?_); clear hK K; simp only [thenQ, blockQ]
    refine AW.ite ?_
    simp only [condQ, bR, Nat.reduceEqDiff, reduceIte, Int.reduceBNe, Int.reduceBEq]
    refine ⟨fun h => ?_, fun h => ?_⟩
    · have hlt : i < m.given.length := by simpa using h
      have hl := ownersIn_le m r (m.given.take i)
      rw [List.length_take] at hl
      refine AW.skip ?_; simp only [thenQ, blockQ, reduceIte, Nat.reduceEqDiff]
      refine AW.seq (AW.block ?_)
      refine AW.seq (AW.reg cd84_4 fun K hK => ?_)
      simp only [g84_4, bR, Nat.reduceEqDiff, reduceIte, Int.reduceBNe, Int.reduceBEq]
      simp only [typR, useR, okR, isE_nat 7 hlt rfl, e_fin, bR, Nat.reduceEqDiff, reduceIte, Int.reduceBNe, Int.reduceBEq]
      refine .flat _ (F86 m.wear m.given[i].mark r (hm.mark _ (List.getElem_mem _))) rfl ?_
      simp only [typR, useR, okR, isE_nat 7 hlt rfl, bR, Nat.reduceEqDiff, reduceIte, Int.reduceBNe, Int.reduceBEq]
      refine .done (hK _ ?_); clear hK K; simp only [thenQ, blockQ]
      have htake : ownersIn m r (m.given.take (i + 1)) = ownersIn m r (m.given.take i) ++ if costOf m.wear m.given[i].mark r ≤ m.fls then [m.given[i].owner] else [] := by
        rw [List.take_succ_eq_append_getElem hlt]
        simp only [ownersIn, List.filter_append, List.map_append, List.filter_cons, List.filter_nil, decide_eq_true_eq]
        split <;> simp
      refine AW.ite ?_
      simp only [condQ, bR, Nat.reduceEqDiff, reduceIte, Int.reduceBNe, Int.reduceBEq]
      refine ⟨fun h => ?_, fun h => ?_⟩
      · refine AW.reg cd84_5 fun K hK => ?_
        simp only [g84_5, bR, Nat.reduceEqDiff, reduceIte, Int.reduceBNe, Int.reduceBEq]
        simp only [typR, useR, okR, isE_nat 7 hlt rfl, bR, Nat.reduceEqDiff, reduceIte, Int.reduceBNe, Int.reduceBEq]
        rw [appR3_enc 3 1 8 5 rfl rfl (by simp) (by simp [maxLen]; omega) (by simp; omega)]
        simp only [bR, Nat.reduceEqDiff, reduceIte, Int.reduceBNe, Int.reduceBEq]
        refine .done (hK _ ?_); clear hK K; simp only [thenQ, blockQ]
        refine AW.reg cd84_6 fun K hK => ?_
        simp only [g84_6, bR, Nat.reduceEqDiff, reduceIte, Int.reduceBNe, Int.reduceBEq]
        refine .done (hK _ ?_); clear hK K; simp only [thenQ, blockQ]
        refine ⟨i + 1, by omega, by omega, ?_⟩
        rw [wrap_id _ (by omega) (by omega), htake, if_pos (by simpa using h)]
        refine Sub.of_lists ?_ ?_ ?_ ?_ <;> simp [subT, subO, onlyT, onlyO, isIn, look_cons, lookO_cons, lookO_nil, AV.only, AV.onlys, AO.only, onlys_map, onlys_append, e_only, e_int, e_bool]
      · refine AW.skip ?_; simp only [thenQ, blockQ, reduceIte, Nat.reduceEqDiff]
        refine AW.reg cd84_6 fun K hK => ?_
        simp only [g84_6, bR, Nat.reduceEqDiff, reduceIte, Int.reduceBNe, Int.reduceBEq]
        refine .done (hK _ ?_); clear hK K; simp only [thenQ, blockQ]
        refine ⟨i + 1, by omega, by omega, ?_⟩
        rw [wrap_id _ (by omega) (by omega), htake, if_neg (by simpa using h), List.append_nil]
        refine Sub.of_lists ?_ ?_ ?_ ?_ <;> simp [subT, subO, onlyT, onlyO, isIn, look_cons, lookO_cons, lookO_nil, AV.only, AV.onlys, AO.only, onlys_map, onlys_append, e_only, e_int, e_bool]
    · have hge : i = m.given.length := by simp at h; omega
      subst hge
      simp only [List.take_length]
      refine AW.exit ?_; simp only [thenQ, blockQ, reduceIte, Nat.reduceEqDiff]
      refine AW.seq (AW.reg cd84_7 fun K hK => ?_)
      simp only [g84_7, bR, Nat.reduceEqDiff, reduceIte, Int.reduceBNe, Int.reduceBEq]
      refine .done (hK _ ?_); clear hK K; simp only [thenQ, blockQ]
      refine AW.ret ?_
      simp only [blockQ, thenQ, bR, Nat.reduceEqDiff, reduceIte, Int.reduceBNe, Int.reduceBEq]

theorem F83 (m : Marks) (k : Arr 6 Int) (hm : okBook m) (hk : okMark k = true) : Ctr Try.prog 83 [enc m, enc k] (enc (m.given.any fun g => decide ((cnt (apartAt m.wear g.mark k) 6 : Int) ≤ IntKind.i64.wrap (2 * m.fls)))) := by
  refine Ctr.mk' Try.func83 ca83 cc83 cr83 (Nat.le_of_ble_eq_true rfl) (fun hwf W0 D0 E1 => ?_)
  simp only [c83, r83, idx, Nat.zero_add, Nat.reduceAdd]
  have hlen := hm.len
  refine AW.seq (AW.reg cd83_0 fun K hK => ?_)
  simp only [g83_0, bR, Nat.reduceEqDiff, reduceIte, Int.reduceBNe, Int.reduceBEq]
  refine .done (hK _ ?_); clear hK K; simp only [thenQ, blockQ]
  refine AW.seq ?_
  refine AW.seq (AW.reg cd83_1 fun K hK => ?_)
  simp only [g83_1, bR, Nat.reduceEqDiff, reduceIte, Int.reduceBNe, Int.reduceBEq]
  refine .done (hK _ ?_); clear hK K; simp only [thenQ, blockQ]
  refine AW.block (AW.loop (fun i : Nat => mkA [(2, .ptr 2 []), (3, .ptr 3 []), (5, .int .i64 i)] [(2, .box (enc m)), (3, .box (enc k))]) (fun i => i ≤ m.given.length ∧ ∀ j (h : j < m.given.length), j < i → (decide ((cnt (apartAt m.wear m.given[j].mark k) 6 : Int) ≤ IntKind.i64.wrap (2 * m.fls))) = false) (fun i => m.given.length - i) 0 ⟨by omega, fun k _ h => by omega⟩ ?_ (fun i hi => ?_))
  · refine Sub.of_lists ?_ ?_ ?_ ?_ <;> simp [subT, subO, onlyT, onlyO, isIn, look_cons, lookO_cons, lookO_nil, AV.only, AV.onlys, AO.only, onlys_map, onlys_append, e_only, e_int, e_bool]
  · refine AW.seq (AW.seq ?_)
    refine AW.reg cd83_2 fun K hK => ?_
    simp only [g83_2, bR, Nat.reduceEqDiff, reduceIte, Int.reduceBNe, Int.reduceBEq]
    simp only [typR, useR, okR, bR, Nat.reduceEqDiff, reduceIte, Int.reduceBNe, Int.reduceBEq]
    refine .done (hK _ ?_); clear hK K; simp only [thenQ, blockQ]
    refine AW.ite ?_
    simp only [condQ, bR, Nat.reduceEqDiff, reduceIte, Int.reduceBNe, Int.reduceBEq]
    refine ⟨fun h => ?_, fun h => ?_⟩
    · have hlt : i < m.given.length := by simpa using h
      refine AW.skip ?_; simp only [thenQ, blockQ, reduceIte, Nat.reduceEqDiff]
      refine AW.seq (AW.block ?_)
      refine AW.seq (AW.reg cd83_3 fun K hK => ?_)
      simp only [g83_3, bR, Nat.reduceEqDiff, reduceIte, Int.reduceBNe, Int.reduceBEq]
      simp only [typR, useR, okR, isE_nat 7 hlt rfl, e_fin, bR, Nat.reduceEqDiff, reduceIte, Int.reduceBNe, Int.reduceBEq]
      refine .flat _ (F99 m.wear m.given[i].mark k (hm.mark _ (List.getElem_mem _)) hk) rfl ?_
      simp only [typR, useR, okR, isE_nat 7 hlt rfl, bR, Nat.reduceEqDiff, reduceIte, Int.reduceBNe, Int.reduceBEq]
      refine .done (hK _ ?_); clear hK K; simp only [thenQ, blockQ]
      refine AW.ite ?_
      simp only [condQ, bR, Nat.reduceEqDiff, reduceIte, Int.reduceBNe, Int.reduceBEq]
      refine ⟨fun h => ?_, fun h => ?_⟩
      · refine AW.seq (AW.reg cd83_4 fun K hK => ?_)
        simp only [g83_4, bR, Nat.reduceEqDiff, reduceIte, Int.reduceBNe, Int.reduceBEq]
        refine .done (hK _ ?_); clear hK K; simp only [thenQ, blockQ]
        refine AW.ret ?_
        simp only [blockQ, thenQ, bR, Nat.reduceEqDiff, reduceIte, Int.reduceBNe, Int.reduceBEq]
        have : (m.given.any fun g => decide ((cnt (apartAt m.wear g.mark k) 6 : Int) ≤ IntKind.i64.wrap (2 * m.fls))) = true := List.any_eq_true.2 ⟨_, List.getElem_mem hlt, h⟩
        rw [this]
      · refine AW.skip ?_; simp only [thenQ, blockQ, reduceIte, Nat.reduceEqDiff]
        refine AW.reg cd83_5 fun K hK => ?_
        simp only [g83_5, bR, Nat.reduceEqDiff, reduceIte, Int.reduceBNe, Int.reduceBEq]
        refine .done (hK _ ?_); clear hK K; simp only [thenQ, blockQ]
        refine ⟨i + 1, ⟨by omega, fun j hj hji => ?_⟩, by omega, ?_⟩
        · by_cases hj' : j = i
          · subst hj'; exact h
          · exact hi.2 j hj (by omega)
        · rw [wrap_id _ (by omega) (by omega)]
          refine Sub.of_lists ?_ ?_ ?_ ?_ <;> simp [subT, subO, onlyT, onlyO, isIn, look_cons, lookO_cons, lookO_nil, AV.only, AV.onlys, AO.only, onlys_map, onlys_append, e_only, e_int, e_bool]
    · have hge : i = m.given.length := by simp at h; omega
      refine AW.exit ?_; simp only [thenQ, blockQ, reduceIte, Nat.reduceEqDiff]
      refine AW.seq (AW.reg cd83_6 fun K hK => ?_)
      simp only [g83_6, bR, Nat.reduceEqDiff, reduceIte, Int.reduceBNe, Int.reduceBEq]
      refine .done (hK _ ?_); clear hK K; simp only [thenQ, blockQ]
      refine AW.ret ?_
      simp only [blockQ, thenQ, bR, Nat.reduceEqDiff, reduceIte, Int.reduceBNe, Int.reduceBEq]
      have : (m.given.any fun g => decide ((cnt (apartAt m.wear g.mark k) 6 : Int) ≤ IntKind.i64.wrap (2 * m.fls))) = false := by
        rw [List.any_eq_false]
        intro x hx
        obtain ⟨j, hj, rfl⟩ := List.getElem_of_mem hx
        simpa using hi.2 j hj (by omega)
      rw [this]

end Go.Proofs.Ytkjkbpgdpnapfaa

/-
  THE REFERENCE'S CHECK OF A BOOK OF MARKS, BY CONTRACT.
-/
namespace Go.Proofs.Ytkjkbpgdpnapfaa
open Go Go.Abs
open Go.Abs.Enc (enc)

def gv (m : Marks) (i : Nat) : Given := m.given.getD i ⟨0, ⟨List.replicate 6 0, rfl⟩⟩
theorem gv_eq {m : Marks} {i : Nat} (h : i < m.given.length) : m.given[i] = gv m i := by simp [gv, List.getD_eq_getElem?_getD, h]
theorem isE_gv {A : AState} {m : Marks} {i : Nat} (h : i < m.given.length) : isE A 7 (i : Int) (enc m.given) = some (.ref (enc (gv m i))) := by
  rw [isE_nat 7 h rfl, gv_eq h]

def okWear (w : Arr 5 Int) : Bool := (List.range 5).all (fun i => inR 0 31 (w.g i) && bit (w.g i) i)
theorem F44' (w : Arr 5 Int) : Ctr Try.prog 44 [enc w] (enc (if okWear w then (0 : Int) else 11)) := F44 w
theorem F42' (m : Arr 6 Int) : Ctr Try.prog 42 [enc m] (enc (if okMark m then (0 : Int) else 10)) := F42 m
theorem F94' (n lo hi : Int) : Ctr Try.prog 94 [enc n, enc lo, enc hi] (enc (inR lo hi n)) := F94 n lo hi

def tooNear (m : Marks) (a b : Arr 6 Int) : Bool := decide ((cnt (apartAt m.wear a b) 6 : Int) ≤ IntKind.i64.wrap (2 * m.fls))
def okAt (m : Marks) (i : Nat) : Bool := inR 1 99 (gv m i).owner && (okMark (gv m i).mark && ((i == 0 || decide ((gv m (i - 1)).owner < (gv m i).owner)) && (List.range i).all (fun j => !tooNear m (gv m j).mark (gv m i).mark)))
/-- What the check asks of a book. -/
def okM (m : Marks) : Bool := okWear m.wear && (inR 0 2 m.fls && (decide (m.given.length ≤ 40) && (List.range m.given.length).all (okAt m)))

theorem okAt_mark {m : Marks} {i : Nat} (h : okAt m i = true) : okMark (gv m i).mark = true := by
  simp only [okAt, Bool.and_eq_true] at h
  exact h.2.1

theorem F48 (m : Marks) : Ctr Try.prog 48 [enc m] (enc (if okM m then (0 : Int) else 13)) := by
  refine Ctr.mk' Try.func48 ca48 cc48 cr48 (Nat.le_of_ble_eq_true rfl) (fun hwf W0 D0 E1 => ?_)
  simp only [c48, r48, idx, Nat.zero_add, Nat.reduceAdd]
  refine AW.seq (AW.reg cd48_0 fun K hK => ?_)
  simp only [g48_0, bR, Nat.reduceEqDiff, reduceIte, Int.reduceBNe, Int.reduceBEq]
  refine .done (hK _ ?_); clear hK K; simp only [thenQ, blockQ]
  refine AW.seq (AW.seq ?_)
  refine AW.reg cd48_1 fun K hK => ?_
  simp only [g48_1, bR, Nat.reduceEqDiff, reduceIte, Int.reduceBNe, Int.reduceBEq]
  simp only [typR, useR, okR, e_fin, bR, Nat.reduceEqDiff, reduceIte, Int.reduceBNe, Int.reduceBEq]
  refine .flat _ (F44' m.wear) rfl ?_
  generalize hw : okWear m.wear = bw
  cases bw
  · simp only [typR, useR, okR, bR, Nat.reduceEqDiff, reduceIte, Int.reduceBNe, Int.reduceBEq]
    refine .done (hK _ ?_); clear hK K; simp only [thenQ, blockQ]
    refine AW.ite ?_
    simp only [condQ, bR, Nat.reduceEqDiff, reduceIte, Int.reduceBNe, Int.reduceBEq]
    refine ⟨fun h => ?_, fun h => ?_⟩
    · refine AW.seq (AW.reg cd48_2 fun K hK => ?_)
      simp only [g48_2, bR, Nat.reduceEqDiff, reduceIte, Int.reduceBNe, Int.reduceBEq]
      refine .done (hK _ ?_); clear hK K; simp only [thenQ, blockQ]
      refine AW.ret ?_
      simp only [blockQ, thenQ, bR, Nat.reduceEqDiff, reduceIte, Int.reduceBNe, Int.reduceBEq]
      simp [okM, hw]
    · cases h
  simp only [typR, useR, okR, bR, Nat.reduceEqDiff, reduceIte, Int.reduceBNe, Int.reduceBEq]
  refine .flat _ (F94' m.fls 0 2) rfl ?_
  generalize hf : inR 0 2 m.fls = bf
  cases bf
  · simp only [typR, useR, okR, bR, Nat.reduceEqDiff, reduceIte, Int.reduceBNe, Int.reduceBEq]
    refine .done (hK _ ?_); clear hK K; simp only [thenQ, blockQ]
    refine AW.ite ?_
    simp only [condQ, bR, Nat.reduceEqDiff, reduceIte, Int.reduceBNe, Int.reduceBEq]
    refine ⟨fun h => ?_, fun h => ?_⟩
    · refine AW.seq (AW.reg cd48_2 fun K hK => ?_)
      simp only [g48_2, bR, Nat.reduceEqDiff, reduceIte, Int.reduceBNe, Int.reduceBEq]
      refine .done (hK _ ?_); clear hK K; simp only [thenQ, blockQ]
      refine AW.ret ?_
      simp only [blockQ, thenQ, bR, Nat.reduceEqDiff, reduceIte, Int.reduceBNe, Int.reduceBEq]
      simp [okM, hw, hf]
    · cases h
  simp only [typR, useR, okR, bR, Nat.reduceEqDiff, reduceIte, Int.reduceBNe, Int.reduceBEq]
  refine .done (hK _ ?_); clear hK K; simp only [thenQ, blockQ]
  refine AW.ite ?_
  simp only [condQ, bR, Nat.reduceEqDiff, reduceIte, Int.reduceBNe, Int.reduceBEq]
  refine ⟨fun h => ?_, fun h => ?_⟩
  · refine AW.seq (AW.reg cd48_2 fun K hK => ?_)
    simp only [g48_2, bR, Nat.reduceEqDiff, reduceIte, Int.reduceBNe, Int.reduceBEq]
    refine .done (hK _ ?_); clear hK K; simp only [thenQ, blockQ]
    refine AW.ret ?_
    simp only [blockQ, thenQ, bR, Nat.reduceEqDiff, reduceIte, Int.reduceBNe, Int.reduceBEq]
    have : ¬ m.given.length ≤ 40 := by simp at h; omega
    simp [okM, hw, hf, this]
  have hlen : m.given.length ≤ 40 := by simp at h; omega
  refine AW.skip ?_; simp only [thenQ, blockQ, reduceIte, Nat.reduceEqDiff]
  refine AW.seq (AW.seq ?_)
  refine AW.reg cd48_3 fun K hK => ?_
  simp only [g48_3, bR, Nat.reduceEqDiff, reduceIte, Int.reduceBNe, Int.reduceBEq]
  refine .done (hK _ ?_); clear hK K; simp only [thenQ, blockQ]
  refine AW.block (AW.loop (fun i : Nat => mkA [(1, .ptr 1 []), (3, .int .i64 i)] [(1, .box (enc m))]) (fun i => i ≤ m.given.length ∧ ∀ j, j < i → okAt m j = true) (fun i => m.given.length - i) 0 ⟨by omega, fun k h => by omega⟩ ?_ (fun i hi => ?_))
  · refine Sub.of_lists ?_ ?_ ?_ ?_ <;> simp [subT, subO, onlyT, onlyO, isIn, look_cons, lookO_cons, lookO_nil, AV.only, AV.onlys, AO.only, onlys_map, onlys_append, e_only, e_int, e_bool]
  refine AW.seq (AW.seq ?_)
  refine AW.reg cd48_4 fun K hK => ?_
  simp only [g48_4, bR, Nat.reduceEqDiff, reduceIte, Int.reduceBNe, Int.reduceBEq]
  simp only [typR, useR, okR, bR, Nat.reduceEqDiff, reduceIte, Int.reduceBNe, Int.reduceBEq]
  refine .done (hK _ ?_); clear hK K; simp only [thenQ, blockQ]
  refine AW.ite ?_
  simp only [condQ, bR, Nat.reduceEqDiff, reduceIte, Int.reduceBNe, Int.reduceBEq]
  refine ⟨fun h => ?_, fun h => ?_⟩
  case refine_2.refine_2 =>
    have hge : i = m.given.length := by simp at h; omega
    subst hge
    refine AW.exit ?_; simp only [thenQ, blockQ, reduceIte, Nat.reduceEqDiff]
    refine AW.seq (AW.reg cd48_14 fun K hK => ?_)
    simp only [g48_14, bR, Nat.reduceEqDiff, reduceIte, Int.reduceBNe, Int.reduceBEq]
    refine .done (hK _ ?_); clear hK K; simp only [thenQ, blockQ]
    refine AW.ret ?_
    simp only [blockQ, thenQ, bR, Nat.reduceEqDiff, reduceIte, Int.reduceBNe, Int.reduceBEq]
    have : (List.range m.given.length).all (okAt m) = true := all_true hi.2
    simp [okM, hw, hf, this, hlen]
  have hlt : i < m.given.length := by simpa using h
  refine AW.skip ?_; simp only [thenQ, blockQ, reduceIte, Nat.reduceEqDiff]
  refine AW.seq (AW.block ?_)
  refine AW.seq (AW.reg cd48_5 fun K hK => ?_)
  simp only [g48_5, bR, Nat.reduceEqDiff, reduceIte, Int.reduceBNe, Int.reduceBEq]
  simp only [typR, useR, okR, isE_gv hlt, bR, Nat.reduceEqDiff, reduceIte, Int.reduceBNe, Int.reduceBEq]
  rw [stR3_ok (e_isVal _) (by rw [e_okS]; rfl) ((e_sh _).trans rfl)]
  simp only [typR, useR, okR, bR, Nat.reduceEqDiff, reduceIte, Int.reduceBNe, Int.reduceBEq]
  refine .done (hK _ ?_); clear hK K; simp only [thenQ, blockQ]
  -- what is said of the mark at i alone
  have bad : ∀ b, okAt m i = b → b = false → (if okM m then (0 : Int) else 13) = 13 := fun b h1 h2 => by
    have : (List.range m.given.length).all (okAt m) = false := all_false i hlt (by rw [h1, h2])
    simp [okM, this]
  refine AW.seq (AW.seq ?_)
  refine AW.reg cd48_6 fun K hK => ?_
  simp only [g48_6, bR, Nat.reduceEqDiff, reduceIte, Int.reduceBNe, Int.reduceBEq]
  simp only [typR, useR, okR, e_fin, bR, Nat.reduceEqDiff, reduceIte, Int.reduceBNe, Int.reduceBEq]
  refine .flat _ (F94' (gv m i).owner 1 99) rfl ?_
  generalize ho : inR 1 99 (gv m i).owner = bo
  cases bo
  · simp only [typR, useR, okR, bR, Nat.reduceEqDiff, reduceIte, Int.reduceBNe, Int.reduceBEq]
    refine .done (hK _ ?_); clear hK K; simp only [thenQ, blockQ]
    refine AW.ite ?_
    simp only [condQ, bR, Nat.reduceEqDiff, reduceIte, Int.reduceBNe, Int.reduceBEq]
    refine ⟨fun h => ?_, fun h => ?_⟩
    · refine AW.seq (AW.reg cd48_7 fun K hK => ?_)
      simp only [g48_7, bR, Nat.reduceEqDiff, reduceIte, Int.reduceBNe, Int.reduceBEq]
      refine .done (hK _ ?_); clear hK K; simp only [thenQ, blockQ]
      refine AW.ret ?_
      simp only [blockQ, thenQ, bR, Nat.reduceEqDiff, reduceIte, Int.reduceBNe, Int.reduceBEq]
      rw [bad _ rfl (by simp [okAt, ho])]
    · cases h
  simp only [typR, useR, okR, e_fin, bR, Nat.reduceEqDiff, reduceIte, Int.reduceBNe, Int.reduceBEq]
  refine .flat _ (F42' (gv m i).mark) rfl ?_
  generalize hk : okMark (gv m i).mark = bk
  cases bk
  · simp only [typR, useR, okR, bR, Nat.reduceEqDiff, reduceIte, Int.reduceBNe, Int.reduceBEq]
    refine .done (hK _ ?_); clear hK K; simp only [thenQ, blockQ]
    refine AW.ite ?_
    simp only [condQ, bR, Nat.reduceEqDiff, reduceIte, Int.reduceBNe, Int.reduceBEq]
    refine ⟨fun h => ?_, fun h => ?_⟩
    · refine AW.seq (AW.reg cd48_7 fun K hK => ?_)
      simp only [g48_7, bR, Nat.reduceEqDiff, reduceIte, Int.reduceBNe, Int.reduceBEq]
      refine .done (hK _ ?_); clear hK K; simp only [thenQ, blockQ]
      refine AW.ret ?_
      simp only [blockQ, thenQ, bR, Nat.reduceEqDiff, reduceIte, Int.reduceBNe, Int.reduceBEq]
      rw [bad _ rfl (by simp [okAt, ho, hk])]
    · cases h
  simp only [typR, useR, okR, bR, Nat.reduceEqDiff, reduceIte, Int.reduceBNe, Int.reduceBEq]
  generalize hz : decide (0 < (i : Int)) = bz
  cases bz
  · have hprev : (i == 0 || decide ((gv m (i - 1)).owner < (gv m i).owner)) = true := by simp at hz; simp [hz]
    simp only [typR, useR, okR, bR, Nat.reduceEqDiff, reduceIte, Int.reduceBNe, Int.reduceBEq]
    refine .done (hK _ ?_); clear hK K; simp only [thenQ, blockQ]
    refine AW.ite ?_
    simp only [condQ, bR, Nat.reduceEqDiff, reduceIte, Int.reduceBNe, Int.reduceBEq]
    refine ⟨fun h => ?_, fun h => ?_⟩
    · cases h
    refine AW.skip ?_; simp only [thenQ, blockQ, reduceIte, Nat.reduceEqDiff]
    refine AW.seq (AW.reg cd48_8 fun K hK => ?_)
    simp only [g48_8, bR, Nat.reduceEqDiff, reduceIte, Int.reduceBNe, Int.reduceBEq]
    refine .done (hK _ ?_); clear hK K; simp only [thenQ, blockQ]
    refine AW.block (AW.loop (fun j : Nat => mkA [(1, .ptr 1 []), (3, .int .i64 i), (4, .ptr 4 []), (5, .int .i64 j)] [(1, .box (enc m)), (4, .box (enc (gv m i)))]) (fun j => j ≤ i ∧ ∀ k, k < j → (!tooNear m (gv m k).mark (gv m i).mark) = true) (fun j => i - j) 0 ⟨by omega, fun k h => by omega⟩ ?_ (fun j hj => ?_))
    · refine Sub.of_lists ?_ ?_ ?_ ?_ <;> simp [subT, subO, onlyT, onlyO, isIn, look_cons, lookO_cons, lookO_nil, AV.only, AV.onlys, AO.only, onlys_map, onlys_append, e_only, e_int, e_bool]
    refine AW.seq (AW.seq ?_)
    refine AW.reg cd48_9 fun K hK => ?_
    simp only [g48_9, bR, Nat.reduceEqDiff, reduceIte, Int.reduceBNe, Int.reduceBEq]
    refine .done (hK _ ?_); clear hK K; simp only [thenQ, blockQ]
    refine AW.ite ?_
    simp only [condQ, bR, Nat.reduceEqDiff, reduceIte, Int.reduceBNe, Int.reduceBEq]
    refine ⟨fun h => ?_, fun h => ?_⟩
    · have hji : j < i := by simp at h; omega
      have hjl : j < m.given.length := by omega
      refine AW.skip ?_; simp only [thenQ, blockQ, reduceIte, Nat.reduceEqDiff]
      refine AW.seq (AW.block ?_)
      refine AW.seq (AW.reg cd48_10 fun K hK => ?_)
      simp only [g48_10, bR, Nat.reduceEqDiff, reduceIte, Int.reduceBNe, Int.reduceBEq]
      simp only [typR, useR, okR, isE_gv hjl, e_fin, bR, Nat.reduceEqDiff, reduceIte, Int.reduceBNe, Int.reduceBEq]
      refine .flat _ (F99 m.wear (gv m j).mark (gv m i).mark (okAt_mark (hi.2 j hji)) hk) rfl ?_
      simp only [typR, useR, okR, bR, Nat.reduceEqDiff, reduceIte, Int.reduceBNe, Int.reduceBEq]
      refine .done (hK _ ?_); clear hK K; simp only [thenQ, blockQ]
      refine AW.ite ?_
      simp only [condQ, bR, Nat.reduceEqDiff, reduceIte, Int.reduceBNe, Int.reduceBEq]
      refine ⟨fun h => ?_, fun h => ?_⟩
      · refine AW.seq (AW.reg cd48_11 fun K hK => ?_)
        simp only [g48_11, bR, Nat.reduceEqDiff, reduceIte, Int.reduceBNe, Int.reduceBEq]
        refine .done (hK _ ?_); clear hK K; simp only [thenQ, blockQ]
        refine AW.ret ?_
        simp only [blockQ, thenQ, bR, Nat.reduceEqDiff, reduceIte, Int.reduceBNe, Int.reduceBEq]
        have hn : tooNear m (gv m j).mark (gv m i).mark = true := h
        have : (List.range i).all (fun j => !tooNear m (gv m j).mark (gv m i).mark) = false := all_false j hji (by rw [hn]; rfl)
        rw [bad _ rfl (by simp only [okAt, this, Bool.and_false])]
      · refine AW.skip ?_; simp only [thenQ, blockQ, reduceIte, Nat.reduceEqDiff]
        refine AW.reg cd48_12 fun K hK => ?_
        simp only [g48_12, bR, Nat.reduceEqDiff, reduceIte, Int.reduceBNe, Int.reduceBEq]
        refine .done (hK _ ?_); clear hK K; simp only [thenQ, blockQ]
        refine ⟨j + 1, ⟨by omega, fun k hk' => ?_⟩, by omega, ?_⟩
        · by_cases hkj : k = j
          · subst hkj
            have hn : tooNear m (gv m k).mark (gv m i).mark = false := h
            rw [hn]; rfl
          · exact hj.2 k (by omega)
        · rw [wrap_id _ (by omega) (by omega)]
          refine Sub.of_lists ?_ ?_ ?_ ?_ <;> simp [subT, subO, onlyT, onlyO, isIn, look_cons, lookO_cons, lookO_nil, AV.only, AV.onlys, AO.only, onlys_map, onlys_append, e_only, e_int, e_bool]
    · have hji : j = i := by simp at h; omega
      refine AW.exit ?_; simp only [thenQ, blockQ, reduceIte, Nat.reduceEqDiff]
      refine AW.reg cd48_13 fun K hK => ?_
      simp only [g48_13, bR, Nat.reduceEqDiff, reduceIte, Int.reduceBNe, Int.reduceBEq]
      refine .done (hK _ ?_); clear hK K; simp only [thenQ, blockQ]
      refine ⟨i + 1, ⟨by omega, fun k hk' => ?_⟩, by omega, ?_⟩
      · by_cases hki : k = i
        · have : (List.range i).all (fun j => !tooNear m (gv m j).mark (gv m i).mark) = true := all_true fun k hk => hj.2 k (by omega)
          rw [hki]
          simp only [okAt, ho, hk, hprev, this, Bool.and_self]
        · exact hi.2 k (by omega)
      · rw [wrap_id _ (by omega) (by omega)]
        refine Sub.of_lists ?_ ?_ ?_ ?_ <;> simp [subT, subO, onlyT, onlyO, isIn, look_cons, lookO_cons, lookO_nil, AV.only, AV.onlys, AO.only, onlys_map, onlys_append, e_only, e_int, e_bool]
  · have hpos : 0 < i := by simpa using hz
    have hpl : i - 1 < m.given.length := by omega
    have hpred : IntKind.i64.wrap ((i : Int) - 1) = ((i - 1 : Nat) : Int) := by rw [wrap_id _ (by omega) (by omega)]; omega
    simp only [typR, useR, okR, hpred, isE_gv hpl, bR, Nat.reduceEqDiff, reduceIte, Int.reduceBNe, Int.reduceBEq]
    refine .done (hK _ ?_); clear hK K; simp only [thenQ, blockQ]
    refine AW.ite ?_
    simp only [condQ, bR, Nat.reduceEqDiff, reduceIte, Int.reduceBNe, Int.reduceBEq]
    refine ⟨fun h => ?_, fun h => ?_⟩
    · refine AW.seq (AW.reg cd48_7 fun K hK => ?_)
      simp only [g48_7, bR, Nat.reduceEqDiff, reduceIte, Int.reduceBNe, Int.reduceBEq]
      refine .done (hK _ ?_); clear hK K; simp only [thenQ, blockQ]
      refine AW.ret ?_
      simp only [blockQ, thenQ, bR, Nat.reduceEqDiff, reduceIte, Int.reduceBNe, Int.reduceBEq]
      have : (i == 0 || decide ((gv m (i - 1)).owner < (gv m i).owner)) = false := by simp at h; simp; omega
      rw [bad _ rfl (by simp only [okAt, this, Bool.and_false, Bool.false_and])]
    have hprev : (i == 0 || decide ((gv m (i - 1)).owner < (gv m i).owner)) = true := by simp at h; simp; omega
    refine AW.skip ?_; simp only [thenQ, blockQ, reduceIte, Nat.reduceEqDiff]
    refine AW.seq (AW.reg cd48_8 fun K hK => ?_)
    simp only [g48_8, bR, Nat.reduceEqDiff, reduceIte, Int.reduceBNe, Int.reduceBEq]
    refine .done (hK _ ?_); clear hK K; simp only [thenQ, blockQ]
    refine AW.block (AW.loop (fun j : Nat => mkA [(1, .ptr 1 []), (3, .int .i64 i), (4, .ptr 4 []), (5, .int .i64 j)] [(1, .box (enc m)), (4, .box (enc (gv m i)))]) (fun j => j ≤ i ∧ ∀ k, k < j → (!tooNear m (gv m k).mark (gv m i).mark) = true) (fun j => i - j) 0 ⟨by omega, fun k h => by omega⟩ ?_ (fun j hj => ?_))
    · refine Sub.of_lists ?_ ?_ ?_ ?_ <;> simp [subT, subO, onlyT, onlyO, isIn, look_cons, lookO_cons, lookO_nil, AV.only, AV.onlys, AO.only, onlys_map, onlys_append, e_only, e_int, e_bool]
    refine AW.seq (AW.seq ?_)
    refine AW.reg cd48_9 fun K hK => ?_
    simp only [g48_9, bR, Nat.reduceEqDiff, reduceIte, Int.reduceBNe, Int.reduceBEq]
    refine .done (hK _ ?_); clear hK K; simp only [thenQ, blockQ]
    refine AW.ite ?_
    simp only [condQ, bR, Nat.reduceEqDiff, reduceIte, Int.reduceBNe, Int.reduceBEq]
    refine ⟨fun h => ?_, fun h => ?_⟩
    · have hji : j < i := by simp at h; omega
      have hjl : j < m.given.length := by omega
      refine AW.skip ?_; simp only [thenQ, blockQ, reduceIte, Nat.reduceEqDiff]
      refine AW.seq (AW.block ?_)
      refine AW.seq (AW.reg cd48_10 fun K hK => ?_)
      simp only [g48_10, bR, Nat.reduceEqDiff, reduceIte, Int.reduceBNe, Int.reduceBEq]
      simp only [typR, useR, okR, isE_gv hjl, e_fin, bR, Nat.reduceEqDiff, reduceIte, Int.reduceBNe, Int.reduceBEq]
      refine .flat _ (F99 m.wear (gv m j).mark (gv m i).mark (okAt_mark (hi.2 j hji)) hk) rfl ?_
      simp only [typR, useR, okR, bR, Nat.reduceEqDiff, reduceIte, Int.reduceBNe, Int.reduceBEq]
      refine .done (hK _ ?_); clear hK K; simp only [thenQ, blockQ]
      refine AW.ite ?_
      simp only [condQ, bR, Nat.reduceEqDiff, reduceIte, Int.reduceBNe, Int.reduceBEq]
      refine ⟨fun h => ?_, fun h => ?_⟩
      · refine AW.seq (AW.reg cd48_11 fun K hK => ?_)
        simp only [g48_11, bR, Nat.reduceEqDiff, reduceIte, Int.reduceBNe, Int.reduceBEq]
        refine .done (hK _ ?_); clear hK K; simp only [thenQ, blockQ]
        refine AW.ret ?_
        simp only [blockQ, thenQ, bR, Nat.reduceEqDiff, reduceIte, Int.reduceBNe, Int.reduceBEq]
        have hn : tooNear m (gv m j).mark (gv m i).mark = true := h
        have : (List.range i).all (fun j => !tooNear m (gv m j).mark (gv m i).mark) = false := all_false j hji (by rw [hn]; rfl)
        rw [bad _ rfl (by simp only [okAt, this, Bool.and_false])]
      · refine AW.skip ?_; simp only [thenQ, blockQ, reduceIte, Nat.reduceEqDiff]
        refine AW.reg cd48_12 fun K hK => ?_
        simp only [g48_12, bR, Nat.reduceEqDiff, reduceIte, Int.reduceBNe, Int.reduceBEq]
        refine .done (hK _ ?_); clear hK K; simp only [thenQ, blockQ]
        refine ⟨j + 1, ⟨by omega, fun k hk' => ?_⟩, by omega, ?_⟩
        · by_cases hkj : k = j
          · subst hkj
            have hn : tooNear m (gv m k).mark (gv m i).mark = false := h
            rw [hn]; rfl
          · exact hj.2 k (by omega)
        · rw [wrap_id _ (by omega) (by omega)]
          refine Sub.of_lists ?_ ?_ ?_ ?_ <;> simp [subT, subO, onlyT, onlyO, isIn, look_cons, lookO_cons, lookO_nil, AV.only, AV.onlys, AO.only, onlys_map, onlys_append, e_only, e_int, e_bool]
    · have hji : j = i := by simp at h; omega
      refine AW.exit ?_; simp only [thenQ, blockQ, reduceIte, Nat.reduceEqDiff]
      refine AW.reg cd48_13 fun K hK => ?_
      simp only [g48_13, bR, Nat.reduceEqDiff, reduceIte, Int.reduceBNe, Int.reduceBEq]
      refine .done (hK _ ?_); clear hK K; simp only [thenQ, blockQ]
      refine ⟨i + 1, ⟨by omega, fun k hk' => ?_⟩, by omega, ?_⟩
      · by_cases hki : k = i
        · have : (List.range i).all (fun j => !tooNear m (gv m j).mark (gv m i).mark) = true := all_true fun k hk => hj.2 k (by omega)
          rw [hki]
          simp only [okAt, ho, hk, hprev, this, Bool.and_self]
        · exact hi.2 k (by omega)
      · rw [wrap_id _ (by omega) (by omega)]
        refine Sub.of_lists ?_ ?_ ?_ ?_ <;> simp [subT, subO, onlyT, onlyO, isIn, look_cons, lookO_cons, lookO_nil, AV.only, AV.onlys, AO.only, onlys_map, onlys_append, e_only, e_int, e_bool]

end Go.Proofs.Ytkjkbpgdpnapfaa

/-
  FUNCTIONS OF THE REFERENCE BY CONTRACT: asked, Owners, Owner, MarkOf.
-/
namespace Go.Proofs.Ytkjkbpgdpnapfaa
open Go Go.Abs
open Go.Abs.Enc (enc)

theorem okM_book {m : Marks} (h : okM m = true) : okBook m := by
  simp only [okM, Bool.and_eq_true, decide_eq_true_eq, List.all_eq_true, List.mem_range] at h
  refine ⟨by omega, fun g hg => ?_⟩
  obtain ⟨i, hi, rfl⟩ := List.getElem_of_mem hg
  rw [gv_eq hi]
  exact okAt_mark (h.2.2.2 i hi)

def okReading (r : Arr 6 Int) : Bool := (List.range 6).all fun i => inR 1 31 (r.g i)
theorem F46' (m : Arr 6 Int) : Ctr Try.prog 46 [enc m] (enc (if okReading m then (0 : Int) else 12)) := F46 m

def askedOf (m : Marks) (o : Int) : Int := if okM m then (if inR 1 99 o then 0 else 15) else 13

theorem F92 (m : Marks) (o : Int) : Ctr Try.prog 92 [enc m, enc o] (enc (askedOf m o)) := by
  refine Ctr.mk' Try.func92 ca92 cc92 cr92 (Nat.le_of_ble_eq_true rfl) (fun hwf W0 D0 E1 => ?_)
  simp only [c92, r92, idx, Nat.zero_add, Nat.reduceAdd]
  refine AW.seq (AW.reg cd92_0 fun K hK => ?_)
  simp only [g92_0, bR, Nat.reduceEqDiff, reduceIte, Int.reduceBNe, Int.reduceBEq]
  refine .done (hK _ ?_); clear hK K; simp only [thenQ, blockQ]
  refine AW.seq (AW.seq ?_)
  refine AW.reg cd92_1 fun K hK => ?_
  simp only [g92_1, bR, Nat.reduceEqDiff, reduceIte, Int.reduceBNe, Int.reduceBEq]
  simp only [typR, useR, okR, e_fin, bR, Nat.reduceEqDiff, reduceIte, Int.reduceBNe, Int.reduceBEq]
  refine .flat _ (F48 m) rfl ?_
  generalize hm : okM m = bm
  cases bm
  · simp only [typR, useR, okR, bR, Nat.reduceEqDiff, reduceIte, Int.reduceBNe, Int.reduceBEq]
    refine .done (hK _ ?_); clear hK K; simp only [thenQ, blockQ]
    refine AW.ite ?_
    simp only [condQ, bR, Nat.reduceEqDiff, reduceIte, Int.reduceBNe, Int.reduceBEq]
    refine ⟨fun h => ?_, fun h => ?_⟩
    · refine AW.seq (AW.reg cd92_2 fun K hK => ?_)
      simp only [g92_2, bR, Nat.reduceEqDiff, reduceIte, Int.reduceBNe, Int.reduceBEq]
      refine .done (hK _ ?_); clear hK K; simp only [thenQ, blockQ]
      refine AW.ret ?_
      simp only [blockQ, thenQ, bR, Nat.reduceEqDiff, reduceIte, Int.reduceBNe, Int.reduceBEq]
      simp [askedOf, hm]
    · cases h
  simp only [typR, useR, okR, bR, Nat.reduceEqDiff, reduceIte, Int.reduceBNe, Int.reduceBEq]
  refine .done (hK _ ?_); clear hK K; simp only [thenQ, blockQ]
  refine AW.ite ?_
  simp only [condQ, bR, Nat.reduceEqDiff, reduceIte, Int.reduceBNe, Int.reduceBEq]
  refine ⟨fun h => ?_, fun h => ?_⟩
  · cases h
  refine AW.skip ?_; simp only [thenQ, blockQ, reduceIte, Nat.reduceEqDiff]
  refine AW.seq (AW.seq ?_)
  refine AW.reg cd92_3 fun K hK => ?_
  simp only [g92_3, bR, Nat.reduceEqDiff, reduceIte, Int.reduceBNe, Int.reduceBEq]
  refine .flat _ (F94' o 1 99) rfl ?_
  generalize ho : inR 1 99 o = bo
  cases bo
  · simp only [typR, useR, okR, bR, Nat.reduceEqDiff, reduceIte, Int.reduceBNe, Int.reduceBEq]
    refine .done (hK _ ?_); clear hK K; simp only [thenQ, blockQ]
    refine AW.ite ?_
    simp only [condQ, bR, Nat.reduceEqDiff, reduceIte, Int.reduceBNe, Int.reduceBEq]
    refine ⟨fun h => ?_, fun h => ?_⟩
    · refine AW.seq (AW.reg cd92_4 fun K hK => ?_)
      simp only [g92_4, bR, Nat.reduceEqDiff, reduceIte, Int.reduceBNe, Int.reduceBEq]
      refine .done (hK _ ?_); clear hK K; simp only [thenQ, blockQ]
      refine AW.ret ?_
      simp only [blockQ, thenQ, bR, Nat.reduceEqDiff, reduceIte, Int.reduceBNe, Int.reduceBEq]
      simp [askedOf, hm, ho]
    · cases h
  simp only [typR, useR, okR, bR, Nat.reduceEqDiff, reduceIte, Int.reduceBNe, Int.reduceBEq]
  refine .done (hK _ ?_); clear hK K; simp only [thenQ, blockQ]
  refine AW.ite ?_
  simp only [condQ, bR, Nat.reduceEqDiff, reduceIte, Int.reduceBNe, Int.reduceBEq]
  refine ⟨fun h => ?_, fun h => ?_⟩
  · cases h
  refine AW.skip ?_; simp only [thenQ, blockQ, reduceIte, Nat.reduceEqDiff]
  refine AW.seq (AW.reg cd92_5 fun K hK => ?_)
  simp only [g92_5, bR, Nat.reduceEqDiff, reduceIte, Int.reduceBNe, Int.reduceBEq]
  refine .done (hK _ ?_); clear hK K; simp only [thenQ, blockQ]
  refine AW.ret ?_
  simp only [blockQ, thenQ, bR, Nat.reduceEqDiff, reduceIte, Int.reduceBNe, Int.reduceBEq]
  simp [askedOf, hm, ho]

def ownersOf (m : Marks) (r : Arr 6 Int) : List Int × Int := if okM m then (if okReading r then (ownersIn m r m.given, 0) else ([], 12)) else ([], 13)

theorem nilInt : AV.slice 1 [] = enc ([] : List Int) := rfl

theorem F28 (m : Marks) (r : Arr 6 Int) : Ctr Try.prog 28 [enc m, enc r] (.tuple [enc (ownersOf m r).1, enc (ownersOf m r).2]) := by
  refine Ctr.mk' Try.func28 ca28 cc28 cr28 (Nat.le_of_ble_eq_true rfl) (fun hwf W0 D0 E1 => ?_)
  simp only [c28, r28, idx, Nat.zero_add, Nat.reduceAdd]
  refine AW.seq (AW.reg cd28_0 fun K hK => ?_)
  simp only [g28_0, bR, Nat.reduceEqDiff, reduceIte, Int.reduceBNe, Int.reduceBEq]
  refine .done (hK _ ?_); clear hK K; simp only [thenQ, blockQ]
  refine AW.seq (AW.seq ?_)
  refine AW.reg cd28_1 fun K hK => ?_
  simp only [g28_1, bR, Nat.reduceEqDiff, reduceIte, Int.reduceBNe, Int.reduceBEq]
  simp only [typR, useR, okR, e_fin, bR, Nat.reduceEqDiff, reduceIte, Int.reduceBNe, Int.reduceBEq]
  refine .flat _ (F48 m) rfl ?_
  generalize hm : okM m = bm
  cases bm
  · simp only [typR, useR, okR, bR, Nat.reduceEqDiff, reduceIte, Int.reduceBNe, Int.reduceBEq]
    refine .done (hK _ ?_); clear hK K; simp only [thenQ, blockQ]
    refine AW.ite ?_
    simp only [condQ, bR, Nat.reduceEqDiff, reduceIte, Int.reduceBNe, Int.reduceBEq]
    refine ⟨fun h => ?_, fun h => ?_⟩
    · refine AW.seq (AW.reg cd28_2 fun K hK => ?_)
      simp only [g28_2, bR, Nat.reduceEqDiff, reduceIte, Int.reduceBNe, Int.reduceBEq]
      refine .done (hK _ ?_); clear hK K; simp only [thenQ, blockQ]
      refine AW.ret ?_
      simp only [blockQ, thenQ, bR, Nat.reduceEqDiff, reduceIte, Int.reduceBNe, Int.reduceBEq]
      simp [ownersOf, hm, nilInt]
    · cases h
  simp only [typR, useR, okR, bR, Nat.reduceEqDiff, reduceIte, Int.reduceBNe, Int.reduceBEq]
  refine .done (hK _ ?_); clear hK K; simp only [thenQ, blockQ]
  refine AW.ite ?_
  simp only [condQ, bR, Nat.reduceEqDiff, reduceIte, Int.reduceBNe, Int.reduceBEq]
  refine ⟨fun h => ?_, fun h => ?_⟩
  · cases h
  refine AW.skip ?_; simp only [thenQ, blockQ, reduceIte, Nat.reduceEqDiff]
  refine AW.seq (AW.seq ?_)
  refine AW.reg cd28_3 fun K hK => ?_
  simp only [g28_3, bR, Nat.reduceEqDiff, reduceIte, Int.reduceBNe, Int.reduceBEq]
  simp only [typR, useR, okR, e_fin, bR, Nat.reduceEqDiff, reduceIte, Int.reduceBNe, Int.reduceBEq]
  refine .flat _ (F46' r) rfl ?_
  generalize hr : okReading r = br
  cases br
  · simp only [typR, useR, okR, bR, Nat.reduceEqDiff, reduceIte, Int.reduceBNe, Int.reduceBEq]
    refine .done (hK _ ?_); clear hK K; simp only [thenQ, blockQ]
    refine AW.ite ?_
    simp only [condQ, bR, Nat.reduceEqDiff, reduceIte, Int.reduceBNe, Int.reduceBEq]
    refine ⟨fun h => ?_, fun h => ?_⟩
    · refine AW.seq (AW.reg cd28_4 fun K hK => ?_)
      simp only [g28_4, bR, Nat.reduceEqDiff, reduceIte, Int.reduceBNe, Int.reduceBEq]
      refine .done (hK _ ?_); clear hK K; simp only [thenQ, blockQ]
      refine AW.ret ?_
      simp only [blockQ, thenQ, bR, Nat.reduceEqDiff, reduceIte, Int.reduceBNe, Int.reduceBEq]
      simp [ownersOf, hm, hr, nilInt]
    · cases h
  simp only [typR, useR, okR, bR, Nat.reduceEqDiff, reduceIte, Int.reduceBNe, Int.reduceBEq]
  refine .done (hK _ ?_); clear hK K; simp only [thenQ, blockQ]
  refine AW.ite ?_
  simp only [condQ, bR, Nat.reduceEqDiff, reduceIte, Int.reduceBNe, Int.reduceBEq]
  refine ⟨fun h => ?_, fun h => ?_⟩
  · cases h
  refine AW.skip ?_; simp only [thenQ, blockQ, reduceIte, Nat.reduceEqDiff]
  refine AW.seq (AW.reg cd28_5 fun K hK => ?_)
  simp only [g28_5, bR, Nat.reduceEqDiff, reduceIte, Int.reduceBNe, Int.reduceBEq]
  simp only [typR, useR, okR, e_fin, bR, Nat.reduceEqDiff, reduceIte, Int.reduceBNe, Int.reduceBEq]
  refine .lead _ (F84 m r (okM_book hm)) ?_
  simp only [typR, useR, okR, bR, Nat.reduceEqDiff, reduceIte, Int.reduceBNe, Int.reduceBEq]
  refine .done (hK _ ?_); clear hK K; simp only [thenQ, blockQ]
  refine AW.seq (AW.reg cd28_6 fun K hK => ?_)
  simp only [g28_6, bR, Nat.reduceEqDiff, reduceIte, Int.reduceBNe, Int.reduceBEq]
  refine .done (hK _ ?_); clear hK K; simp only [thenQ, blockQ]
  refine AW.ret ?_
  simp only [blockQ, thenQ, bR, Nat.reduceEqDiff, reduceIte, Int.reduceBNe, Int.reduceBEq]
  simp only [e_fin, bR, Nat.reduceEqDiff, reduceIte, Int.reduceBNe, Int.reduceBEq]
  simp [ownersOf, hm, hr]

def ownerOf (m : Marks) (r : Arr 6 Int) : Int × Int :=
  if (ownersOf m r).2 ≠ 0 then (0, (ownersOf m r).2) else match (ownersOf m r).1 with
    | [] => (0, 3)
    | [o] => (o, 0)
    | _ => (0, 17)

theorem F30 (m : Marks) (r : Arr 6 Int) : Ctr Try.prog 30 [enc m, enc r] (.tuple [enc (ownerOf m r).1, enc (ownerOf m r).2]) := by
  refine Ctr.mk' Try.func30 ca30 cc30 cr30 (Nat.le_of_ble_eq_true rfl) (fun hwf W0 D0 E1 => ?_)
  simp only [c30, r30, idx, Nat.zero_add, Nat.reduceAdd]
  refine AW.seq (AW.reg cd30_0 fun K hK => ?_)
  simp only [g30_0, bR, Nat.reduceEqDiff, reduceIte, Int.reduceBNe, Int.reduceBEq]
  refine .done (hK _ ?_); clear hK K; simp only [thenQ, blockQ]
  refine AW.seq (AW.reg cd30_1 fun K hK => ?_)
  simp only [g30_1, bR, Nat.reduceEqDiff, reduceIte, Int.reduceBNe, Int.reduceBEq]
  simp only [typR, useR, okR, e_fin, bR, Nat.reduceEqDiff, reduceIte, Int.reduceBNe, Int.reduceBEq]
  refine .lead _ (F28 m r) ?_
  generalize hp : ownersOf m r = p
  obtain ⟨l, e⟩ := p
  simp only [typR, useR, okR, e_fin, bR, Nat.reduceEqDiff, reduceIte, Int.reduceBNe, Int.reduceBEq]
  refine .done (hK _ ?_); clear hK K; simp only [thenQ, blockQ]
  refine AW.seq (AW.seq ?_)
  refine AW.reg cd30_2 fun K hK => ?_
  simp only [g30_2, bR, Nat.reduceEqDiff, reduceIte, Int.reduceBNe, Int.reduceBEq]
  refine .done (hK _ ?_); clear hK K; simp only [thenQ, blockQ]
  refine AW.ite ?_
  simp only [condQ, bR, Nat.reduceEqDiff, reduceIte, Int.reduceBNe, Int.reduceBEq]
  refine ⟨fun h => ?_, fun h => ?_⟩
  · refine AW.seq (AW.reg cd30_3 fun K hK => ?_)
    simp only [g30_3, bR, Nat.reduceEqDiff, reduceIte, Int.reduceBNe, Int.reduceBEq]
    refine .done (hK _ ?_); clear hK K; simp only [thenQ, blockQ]
    refine AW.ret ?_
    simp only [blockQ, thenQ, bR, Nat.reduceEqDiff, reduceIte, Int.reduceBNe, Int.reduceBEq]
    have he : e ≠ 0 := by simpa using h
    simp [ownerOf, hp, he]
  have he : e = 0 := by simpa using h
  subst he
  refine AW.skip ?_; simp only [thenQ, blockQ, reduceIte, Nat.reduceEqDiff]
  refine AW.seq (AW.seq ?_)
  refine AW.reg cd30_4 fun K hK => ?_
  simp only [g30_4, bR, Nat.reduceEqDiff, reduceIte, Int.reduceBNe, Int.reduceBEq]
  simp only [typR, useR, okR, e_fin, bR, Nat.reduceEqDiff, reduceIte, Int.reduceBNe, Int.reduceBEq]
  refine .done (hK _ ?_); clear hK K; simp only [thenQ, blockQ]
  refine AW.block ?_
  refine AW.seq (AW.reg cd30_5 fun K hK => ?_)
  simp only [g30_5, bR, Nat.reduceEqDiff, reduceIte, Int.reduceBNe, Int.reduceBEq]
  refine .done (hK _ ?_); clear hK K; simp only [thenQ, blockQ]
  refine AW.ite ?_
  simp only [condQ, bR, Nat.reduceEqDiff, reduceIte, Int.reduceBNe, Int.reduceBEq]
  refine ⟨fun h => ?_, fun h => ?_⟩
  · refine AW.seq (AW.reg cd30_6 fun K hK => ?_)
    simp only [g30_6, bR, Nat.reduceEqDiff, reduceIte, Int.reduceBNe, Int.reduceBEq]
    refine .done (hK _ ?_); clear hK K; simp only [thenQ, blockQ]
    refine AW.ret ?_
    simp only [blockQ, thenQ, bR, Nat.reduceEqDiff, reduceIte, Int.reduceBNe, Int.reduceBEq]
    have hl : l = [] := by simpa using h
    simp [ownerOf, hp, hl]
  have hl : l ≠ [] := by simpa using h
  refine AW.seq (AW.reg cd30_7 fun K hK => ?_)
  simp only [g30_7, bR, Nat.reduceEqDiff, reduceIte, Int.reduceBNe, Int.reduceBEq]
  refine .done (hK _ ?_); clear hK K; simp only [thenQ, blockQ]
  refine AW.ite ?_
  simp only [condQ, bR, Nat.reduceEqDiff, reduceIte, Int.reduceBNe, Int.reduceBEq]
  refine ⟨fun h => ?_, fun h => ?_⟩
  · have h1 : l.length = 1 := by simp at h; omega
    obtain ⟨o, rfl⟩ := List.length_eq_one_iff.1 h1
    refine AW.seq (AW.reg cd30_8 fun K hK => ?_)
    simp only [g30_8, bR, Nat.reduceEqDiff, reduceIte, Int.reduceBNe, Int.reduceBEq]
    simp only [typR, useR, okR, e_fin, isE_enc (k := 0) (l := [o]) 1 ⟨by omega, by simp⟩ rfl, bR, Nat.reduceEqDiff, reduceIte, Int.reduceBNe, Int.reduceBEq]
    refine .done (hK _ ?_); clear hK K; simp only [thenQ, blockQ]
    refine AW.ret ?_
    simp only [blockQ, thenQ, bR, Nat.reduceEqDiff, reduceIte, Int.reduceBNe, Int.reduceBEq]
    simp [ownerOf, hp]
  have h1 : l.length ≠ 1 := by simp at h; omega
  refine AW.skip ?_; simp only [thenQ, blockQ, reduceIte, Nat.reduceEqDiff]
  refine AW.seq (AW.reg cd30_9 fun K hK => ?_)
  simp only [g30_9, bR, Nat.reduceEqDiff, reduceIte, Int.reduceBNe, Int.reduceBEq]
  refine .done (hK _ ?_); clear hK K; simp only [thenQ, blockQ]
  refine AW.ret ?_
  simp only [blockQ, thenQ, bR, Nat.reduceEqDiff, reduceIte, Int.reduceBNe, Int.reduceBEq]
  match l, hl, h1 with
  | [], hl, _ => exact absurd rfl hl
  | [o], _, h1 => exact absurd rfl h1
  | a :: b :: r', _, _ => simp [ownerOf, hp]

end Go.Proofs.Ytkjkbpgdpnapfaa

/-
  FUNCTIONS OF THE REFERENCE BY CONTRACT: MarkOf, Cost, Distance.
-/
namespace Go.Proofs.Ytkjkbpgdpnapfaa
open Go Go.Abs
open Go.Abs.Enc (enc)

def zero6 : Arr 6 Int := ⟨List.replicate 6 0, rfl⟩
theorem e_zero6 : AV.agg [.int .i64 0, .int .i64 0, .int .i64 0, .int .i64 0, .int .i64 0, .int .i64 0] = enc zero6 := rfl

def markOf (m : Marks) (o : Int) : Arr 6 Int × Int :=
  if askedOf m o ≠ 0 then (zero6, askedOf m o) else if indexOf m.given o < 0 then (zero6, 3) else ((gv m (indexOf m.given o).toNat).mark, 0)

theorem indexOf_lt (l : List Given) (o : Int) (h : 0 ≤ indexOf l o) : (indexOf l o).toNat < l.length := by
  unfold indexOf at *
  split at h
  · rename_i i hi
    simp only [Int.toNat_natCast]
    exact (List.findIdx?_eq_some_iff_getElem.1 hi).1
  · omega

theorem F40 (m : Marks) (o : Int) : Ctr Try.prog 40 [enc m, enc o] (.tuple [enc (markOf m o).1, enc (markOf m o).2]) := by
  refine Ctr.mk' Try.func40 ca40 cc40 cr40 (Nat.le_of_ble_eq_true rfl) (fun hwf W0 D0 E1 => ?_)
  simp only [c40, r40, idx, Nat.zero_add, Nat.reduceAdd]
  refine AW.seq (AW.reg cd40_0 fun K hK => ?_)
  simp only [g40_0, bR, Nat.reduceEqDiff, reduceIte, Int.reduceBNe, Int.reduceBEq]
  refine .done (hK _ ?_); clear hK K; simp only [thenQ, blockQ]
  refine AW.seq (AW.reg cd40_1 fun K hK => ?_)
  simp only [g40_1, bR, Nat.reduceEqDiff, reduceIte, Int.reduceBNe, Int.reduceBEq]
  simp only [typR, useR, okR, e_fin, bR, Nat.reduceEqDiff, reduceIte, Int.reduceBNe, Int.reduceBEq]
  refine .flat _ (F92 m o) rfl ?_
  generalize ha : askedOf m o = a
  simp only [typR, useR, okR, bR, Nat.reduceEqDiff, reduceIte, Int.reduceBNe, Int.reduceBEq]
  refine .done (hK _ ?_); clear hK K; simp only [thenQ, blockQ]
  refine AW.seq (AW.seq ?_)
  refine AW.reg cd40_2 fun K hK => ?_
  simp only [g40_2, bR, Nat.reduceEqDiff, reduceIte, Int.reduceBNe, Int.reduceBEq]
  refine .done (hK _ ?_); clear hK K; simp only [thenQ, blockQ]
  refine AW.ite ?_
  simp only [condQ, bR, Nat.reduceEqDiff, reduceIte, Int.reduceBNe, Int.reduceBEq]
  refine ⟨fun h => ?_, fun h => ?_⟩
  · have h' : a ≠ 0 := by simpa using h
    refine AW.seq (AW.reg cd40_3 fun K hK => ?_)
    simp only [g40_3, bR, Nat.reduceEqDiff, reduceIte, Int.reduceBNe, Int.reduceBEq]
    simp only [setParts, List.map_nil, Option.map_some, bR, Nat.reduceEqDiff, reduceIte, Int.reduceBNe, Int.reduceBEq]
    simp only [e_zero6]
    rw [stR3_ok (e_isVal _) (by rw [e_okS]; rfl) rfl]
    simp only [bR, Nat.reduceEqDiff, reduceIte, Int.reduceBNe, Int.reduceBEq]
    refine .done (hK _ ?_); clear hK K; simp only [thenQ, blockQ]
    refine AW.ret ?_
    simp only [blockQ, thenQ, bR, Nat.reduceEqDiff, reduceIte, Int.reduceBNe, Int.reduceBEq]
    simp only [typR, e_fin, bR, Nat.reduceEqDiff, reduceIte, Int.reduceBNe, Int.reduceBEq]
    simp [markOf, ha, h']
  have h' : a = 0 := by simpa using h
  subst h'
  refine AW.skip ?_; simp only [thenQ, blockQ, reduceIte, Nat.reduceEqDiff]
  refine AW.seq (AW.reg cd40_4 fun K hK => ?_)
  simp only [g40_4, bR, Nat.reduceEqDiff, reduceIte, Int.reduceBNe, Int.reduceBEq]
  simp only [typR, useR, okR, e_fin, bR, Nat.reduceEqDiff, reduceIte, Int.reduceBNe, Int.reduceBEq]
  refine .flat _ (F80 m o) rfl ?_
  simp only [typR, useR, okR, bR, Nat.reduceEqDiff, reduceIte, Int.reduceBNe, Int.reduceBEq]
  refine .done (hK _ ?_); clear hK K; simp only [thenQ, blockQ]
  refine AW.seq (AW.seq ?_)
  refine AW.reg cd40_5 fun K hK => ?_
  simp only [g40_5, bR, Nat.reduceEqDiff, reduceIte, Int.reduceBNe, Int.reduceBEq]
  refine .done (hK _ ?_); clear hK K; simp only [thenQ, blockQ]
  refine AW.ite ?_
  simp only [condQ, bR, Nat.reduceEqDiff, reduceIte, Int.reduceBNe, Int.reduceBEq]
  refine ⟨fun h => ?_, fun h => ?_⟩
  · have h' : indexOf m.given o < 0 := by simpa using h
    refine AW.seq (AW.reg cd40_6 fun K hK => ?_)
    simp only [g40_6, bR, Nat.reduceEqDiff, reduceIte, Int.reduceBNe, Int.reduceBEq]
    simp only [setParts, List.map_nil, Option.map_some, bR, Nat.reduceEqDiff, reduceIte, Int.reduceBNe, Int.reduceBEq]
    simp only [e_zero6]
    rw [stR3_ok (e_isVal _) (by rw [e_okS]; rfl) rfl]
    simp only [bR, Nat.reduceEqDiff, reduceIte, Int.reduceBNe, Int.reduceBEq]
    refine .done (hK _ ?_); clear hK K; simp only [thenQ, blockQ]
    refine AW.ret ?_
    simp only [blockQ, thenQ, bR, Nat.reduceEqDiff, reduceIte, Int.reduceBNe, Int.reduceBEq]
    simp only [typR, e_fin, bR, Nat.reduceEqDiff, reduceIte, Int.reduceBNe, Int.reduceBEq]
    simp [markOf, ha, h']
  have h' : 0 ≤ indexOf m.given o := by simpa using h
  have hi := indexOf_lt m.given o h'
  have hi' : ((indexOf m.given o).toNat : Int) = indexOf m.given o := by omega
  refine AW.skip ?_; simp only [thenQ, blockQ, reduceIte, Nat.reduceEqDiff]
  refine AW.seq (AW.reg cd40_7 fun K hK => ?_)
  simp only [g40_7, bR, Nat.reduceEqDiff, reduceIte, Int.reduceBNe, Int.reduceBEq]
  rw [← hi']
  simp only [typR, useR, okR, isE_gv hi, e_fin, bR, Nat.reduceEqDiff, reduceIte, Int.reduceBNe, Int.reduceBEq]
  rw [stR3_ok (e_isVal _) (by rw [e_okS]; rfl) ((e_sh _).trans rfl)]
  simp only [bR, Nat.reduceEqDiff, reduceIte, Int.reduceBNe, Int.reduceBEq]
  refine .done (hK _ ?_); clear hK K; simp only [thenQ, blockQ]
  refine AW.ret ?_
  simp only [blockQ, thenQ, bR, Nat.reduceEqDiff, reduceIte, Int.reduceBNe, Int.reduceBEq]
  simp only [typR, e_fin, bR, Nat.reduceEqDiff, reduceIte, Int.reduceBNe, Int.reduceBEq]
  simp [markOf, ha, show ¬ indexOf m.given o < 0 by omega]

end Go.Proofs.Ytkjkbpgdpnapfaa

