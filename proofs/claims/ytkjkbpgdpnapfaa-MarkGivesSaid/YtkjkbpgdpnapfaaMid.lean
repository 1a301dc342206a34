/-
  THE SEAT'S FUNCTIONS, READ (part 2): the code of each as the abstract layer reads it, by program; each tie is a closed fact.
-/
import Derived.KernelRfl
import Derived.Test.YtkjkbpgdpnapfaaChecked
import Derived.Test.YtkjkbpgdpnapfaaMic
set_option linter.unusedSimpArgs false
set_option linter.unusedVariables false
namespace Go.Proofs.Ytkjkbpgdpnapfaa
open Go Go.Abs
def g73_0 : List G := [⟨(some 4), .mv (.c (.nils 7)), none⟩]
def d73_0 : Option (List (List Nat)) := none
def l73_0 : List Nat := []
theorem cd73_0 : dOk d73_0 g73_0 l73_0 = true := by kernel_rfl
def g73_1 : List G := [⟨(some 8), .mv (.t 0), none⟩,
  ⟨(some 9), .mv (.t 1), none⟩,
  ⟨(some 10), .call 108 [(.t 8), (.t 9)], none⟩,
  ⟨(some 5), .mv (.t 10), none⟩]
def d73_1 : Option (List (List Nat)) := none
def l73_1 : List Nat := []
theorem cd73_1 : dOk d73_1 g73_1 l73_1 = true := by kernel_rfl
def g73_2 : List G := [⟨(some 11), .mv (.t 5), none⟩,
  ⟨(some 12), .bin .eql (.t 11) (.c (.int .i64 (-1))), none⟩]
def d73_2 : Option (List (List Nat)) := none
def l73_2 : List Nat := []
theorem cd73_2 : dOk d73_2 g73_2 l73_2 = true := by kernel_rfl
def g73_3 : List G := [⟨(some 13), .mv (.t 0), none⟩,
  ⟨(some 4), .mv (.t 13), none⟩]
def d73_3 : Option (List (List Nat)) := none
def l73_3 : List Nat := []
theorem cd73_3 : dOk d73_3 g73_3 l73_3 = true := by kernel_rfl
def g73_4 : List G := [⟨(some 14), .mv (.t 5), none⟩,
  ⟨(some 15), .bin .add (.t 14) (.c (.int .i64 (1))), none⟩,
  ⟨(some 6), .mv (.t 15), none⟩]
def d73_4 : Option (List (List Nat)) := none
def l73_4 : List Nat := []
theorem cd73_4 : dOk d73_4 g73_4 l73_4 = true := by kernel_rfl
def g73_5 : List G := [⟨(some 16), .mv (.t 6), none⟩,
  ⟨(some 17), .mv (.t 0), none⟩,
  ⟨(some 18), .len (.t 17), none⟩,
  ⟨(some 19), .bin .lss (.t 16) (.t 18), none⟩]
def d73_5 : Option (List (List Nat)) := none
def l73_5 : List Nat := []
theorem cd73_5 : dOk d73_5 g73_5 l73_5 = true := by kernel_rfl
def g73_6 : List G := [⟨(some 22), .mv (.t 0), none⟩,
  ⟨(some 23), .mv (.t 6), none⟩,
  ⟨(some 24), .is 7 (.t 22) (.t 23), none⟩,
  ⟨(some 25), .ld (some 7) (.t 24), none⟩,
  ⟨(some 7), .alloc (.agg [.int .i64 (0), .agg [.int .i64 (0), .int .i64 (0), .int .i64 (0), .int .i64 (0), .int .i64 (0), .int .i64 (0)]]), none⟩,
  ⟨none, .st (some 7) (.t 7) (.t 25), none⟩]
def d73_6 : Option (List (List Nat)) := none
def l73_6 : List Nat := []
theorem cd73_6 : dOk d73_6 g73_6 l73_6 = true := by kernel_rfl
def g73_7 : List G := [⟨(some 26), .mv (.t 1), none⟩,
  ⟨(some 27), .ld (some 7) (.t 7), none⟩,
  ⟨(some 28), .callv (.t 26) [(.t 27)], none⟩,
  ⟨(some 29), .un .not (.t 28), none⟩]
def d73_7 : Option (List (List Nat)) := none
def l73_7 : List Nat := []
theorem cd73_7 : dOk d73_7 g73_7 l73_7 = true := by kernel_rfl
def g73_8 : List G := [⟨(some 30), .mv (.t 0), none⟩,
  ⟨(some 31), .mv (.t 5), none⟩,
  ⟨(some 32), .ld (some 7) (.t 7), none⟩,
  ⟨(some 33), .is 7 (.t 30) (.t 31), none⟩,
  ⟨none, .st (some 7) (.t 33) (.t 32), none⟩]
def d73_8 : Option (List (List Nat)) := none
def l73_8 : List Nat := []
theorem cd73_8 : dOk d73_8 g73_8 l73_8 = true := by kernel_rfl
def g73_9 : List G := [⟨(some 34), .mv (.t 5), none⟩,
  ⟨(some 35), .bin .add (.t 34) (.c (.int .i64 (1))), none⟩,
  ⟨(some 5), .mv (.t 35), none⟩]
def d73_9 : Option (List (List Nat)) := none
def l73_9 : List Nat := []
theorem cd73_9 : dOk d73_9 g73_9 l73_9 = true := by kernel_rfl
def g73_10 : List G := [⟨(some 20), .mv (.t 6), none⟩,
  ⟨(some 21), .bin .add (.t 20) (.c (.int .i64 (1))), none⟩,
  ⟨(some 6), .mv (.t 21), none⟩]
def d73_10 : Option (List (List Nat)) := none
def l73_10 : List Nat := []
theorem cd73_10 : dOk d73_10 g73_10 l73_10 = true := by kernel_rfl
def g73_11 : List G := [⟨(some 36), .mv (.t 0), none⟩,
  ⟨(some 37), .mv (.t 5), none⟩,
  ⟨(some 38), .sl 7 (.t 36) (some (.t 37)) none none, none⟩,
  ⟨none, .clr 7 (.agg [.int .i64 (0), .agg [.int .i64 (0), .int .i64 (0), .int .i64 (0), .int .i64 (0), .int .i64 (0), .int .i64 (0)]]) (.t 38), none⟩]
def d73_11 : Option (List (List Nat)) := none
def l73_11 : List Nat := []
theorem cd73_11 : dOk d73_11 g73_11 l73_11 = true := by kernel_rfl
def g73_12 : List G := [⟨(some 39), .mv (.t 0), none⟩,
  ⟨(some 40), .mv (.t 5), none⟩,
  ⟨(some 41), .sl 7 (.t 39) none (some (.t 40)) none, none⟩,
  ⟨(some 4), .mv (.t 41), none⟩]
def d73_12 : Option (List (List Nat)) := none
def l73_12 : List Nat := []
theorem cd73_12 : dOk d73_12 g73_12 l73_12 = true := by kernel_rfl
def c73 : AC := (.seq (.reg d73_0 g73_0) (.seq (.reg d73_1 g73_1) (.seq (.seq (.reg d73_2 g73_2) (.cond (.t 12) (.seq (.reg d73_3 g73_3) .ret) .skip)) (.seq (.seq (.reg d73_4 g73_4) (.block 0 (.loop (.seq (.seq (.reg d73_5 g73_5) (.cond (.t 19) .skip (.exit 0))) (.seq (.block 1 (.seq (.reg d73_6 g73_6) (.seq (.reg d73_7 g73_7) (.cond (.t 29) (.seq (.reg d73_8 g73_8) (.reg d73_9 g73_9)) .skip)))) (.reg d73_10 g73_10)))))) (.seq (.reg d73_11 g73_11) (.seq (.reg d73_12 g73_12) .ret))))))
def r73 : List RV := [.tmp 4]
theorem cc73 : (Try.f73.body.bind (cCode Try.prog Try.f73.ntmps)) = some c73 := by kernel_rfl
theorem cr73 : cRes Try.prog Try.f73.results.toList = some r73 := by kernel_rfl
theorem ca73 : callable Try.prog 73 = true := by kernel_rfl
def g74_0 : List G := [⟨(some 4), .box (.t 0), none⟩,
  ⟨(some 5), .mv (.c (.bool false)), none⟩]
def d74_0 : Option (List (List Nat)) := none
def l74_0 : List Nat := []
theorem cd74_0 : dOk d74_0 g74_0 l74_0 = true := by kernel_rfl
def g74_1 : List G := [⟨(some 6), .ld none (.t 1), none⟩,
  ⟨(some 7), .mk 76 [(.t 2), (.t 4), (.t 3)], none⟩,
  ⟨(some 8), .call 75 [(.t 6), (.t 7)], none⟩,
  ⟨(some 5), .mv (.t 8), none⟩]
def d74_1 : Option (List (List Nat)) := none
def l74_1 : List Nat := []
theorem cd74_1 : dOk d74_1 g74_1 l74_1 = true := by kernel_rfl
def c74 : AC := (.seq (.reg d74_0 g74_0) (.seq (.reg d74_1 g74_1) .ret))
def r74 : List RV := [.tmp 5]
theorem cc74 : (Try.f74.body.bind (cCode Try.prog Try.f74.ntmps)) = some c74 := by kernel_rfl
theorem cr74 : cRes Try.prog Try.f74.results.toList = some r74 := by kernel_rfl
theorem ca74 : callable Try.prog 74 = true := by kernel_rfl
def g75_0 : List G := [⟨(some 4), .mv (.c (.bool false)), none⟩]
def d75_0 : Option (List (List Nat)) := none
def l75_0 : List Nat := []
theorem cd75_0 : dOk d75_0 g75_0 l75_0 = true := by kernel_rfl
def g75_1 : List G := [⟨(some 5), .mv (.t 0), none⟩,
  ⟨(some 6), .mv (.t 1), none⟩,
  ⟨(some 7), .call 109 [(.t 5), (.t 6)], none⟩,
  ⟨(some 8), .bin .geq (.t 7) (.c (.int .i64 (0))), none⟩,
  ⟨(some 4), .mv (.t 8), none⟩]
def d75_1 : Option (List (List Nat)) := none
def l75_1 : List Nat := []
theorem cd75_1 : dOk d75_1 g75_1 l75_1 = true := by kernel_rfl
def c75 : AC := (.seq (.reg d75_0 g75_0) (.seq (.reg d75_1 g75_1) .ret))
def r75 : List RV := [.tmp 4]
theorem cc75 : (Try.f75.body.bind (cCode Try.prog Try.f75.ntmps)) = some c75 := by kernel_rfl
theorem cr75 : cRes Try.prog Try.f75.results.toList = some r75 := by kernel_rfl
theorem ca75 : callable Try.prog 75 = true := by kernel_rfl
def g76_0 : List G := [⟨(some 5), .mv (.c (.bool false)), none⟩]
def d76_0 : Option (List (List Nat)) := none
def l76_0 : List Nat := []
theorem cd76_0 : dOk d76_0 g76_0 l76_0 = true := by kernel_rfl
def g76_1 : List G := [⟨(some 6), .fa 0 0 (.t 1), none⟩,
  ⟨(some 7), .ld (some 5) (.t 6), none⟩,
  ⟨(some 8), .fa 1 1 (.t 2), none⟩,
  ⟨(some 9), .ld (some 6) (.t 8), none⟩,
  ⟨(some 10), .mv (.t 0), none⟩,
  ⟨(some 11), .call 77 [(.t 7), (.t 9), (.t 10)], none⟩,
  ⟨(some 12), .mv (.t 0), none⟩,
  ⟨(some 13), .ia 6 1 (.t 3) (.t 12), none⟩,
  ⟨(some 14), .ld none (.t 13), none⟩,
  ⟨(some 15), .call 78 [(.t 11), (.t 14)], none⟩,
  ⟨(some 16), .un .not (.t 15), none⟩,
  ⟨(some 5), .mv (.t 16), none⟩]
def d76_1 : Option (List (List Nat)) := (some [[], [0], [], [2], [], [1, 3, 4], [], [6], [7], [5, 8, 5], [9], [10, 9, 0, 1, 2, 3, 4, 5, 6, 7, 8, 9, 10]])
def l76_1 : List Nat := [0, 1, 0, 4, 0, 31, 0, 64, 192, 511, 1023, 2047]
theorem cd76_1 : dOk d76_1 g76_1 l76_1 = true := by kernel_rfl
def c76 : AC := (.seq (.reg d76_0 g76_0) (.seq (.reg d76_1 g76_1) .ret))
def r76 : List RV := [.tmp 5]
theorem cc76 : (Try.f76.body.bind (cCode Try.prog Try.f76.ntmps)) = some c76 := by kernel_rfl
theorem cr76 : cRes Try.prog Try.f76.results.toList = some r76 := by kernel_rfl
theorem ca76 : callable Try.prog 76 = true := by kernel_rfl
def g77_0 : List G := [⟨(some 3), .box (.t 0), none⟩,
  ⟨(some 4), .box (.t 1), none⟩,
  ⟨(some 6), .mv (.c (.int .i64 (0))), none⟩]
def d77_0 : Option (List (List Nat)) := none
def l77_0 : List Nat := []
theorem cd77_0 : dOk d77_0 g77_0 l77_0 = true := by kernel_rfl
def g77_1 : List G := [⟨(some 7), .mv (.t 2), none⟩,
  ⟨(some 8), .ia 6 1 (.t 4) (.t 7), none⟩,
  ⟨(some 9), .ld none (.t 8), none⟩,
  ⟨(some 10), .ia 5 1 (.t 3) (.t 9), none⟩,
  ⟨(some 11), .ld none (.t 10), none⟩,
  ⟨(some 6), .mv (.t 11), none⟩]
def d77_1 : Option (List (List Nat)) := none
def l77_1 : List Nat := []
theorem cd77_1 : dOk d77_1 g77_1 l77_1 = true := by kernel_rfl
def c77 : AC := (.seq (.reg d77_0 g77_0) (.seq (.reg d77_1 g77_1) .ret))
def r77 : List RV := [.tmp 6]
theorem cc77 : (Try.f77.body.bind (cCode Try.prog Try.f77.ntmps)) = some c77 := by kernel_rfl
theorem cr77 : cRes Try.prog Try.f77.results.toList = some r77 := by kernel_rfl
theorem ca77 : callable Try.prog 77 = true := by kernel_rfl
def g78_0 : List G := [⟨(some 4), .mv (.c (.bool false)), none⟩]
def d78_0 : Option (List (List Nat)) := none
def l78_0 : List Nat := []
theorem cd78_0 : dOk d78_0 g78_0 l78_0 = true := by kernel_rfl
def g78_1 : List G := [⟨(some 5), .mv (.t 0), none⟩,
  ⟨(some 6), .mv (.t 1), none⟩,
  ⟨(some 7), .bin .and (.t 5) (.t 6), none⟩,
  ⟨(some 8), .bin .neq (.t 7) (.c (.int .i64 (0))), none⟩,
  ⟨(some 4), .mv (.t 8), none⟩]
def d78_1 : Option (List (List Nat)) := none
def l78_1 : List Nat := []
theorem cd78_1 : dOk d78_1 g78_1 l78_1 = true := by kernel_rfl
def c78 : AC := (.seq (.reg d78_0 g78_0) (.seq (.reg d78_1 g78_1) .ret))
def r78 : List RV := [.tmp 4]
theorem cc78 : (Try.f78.body.bind (cCode Try.prog Try.f78.ntmps)) = some c78 := by kernel_rfl
theorem cr78 : cRes Try.prog Try.f78.results.toList = some r78 := by kernel_rfl
theorem ca78 : callable Try.prog 78 = true := by kernel_rfl
def g80_0 : List G := [⟨(some 2), .box (.t 0), none⟩,
  ⟨(some 4), .mv (.c (.int .i64 (0))), none⟩]
def d80_0 : Option (List (List Nat)) := none
def l80_0 : List Nat := []
theorem cd80_0 : dOk d80_0 g80_0 l80_0 = true := by kernel_rfl
def g80_1 : List G := [⟨(some 5), .mv (.c (.int .i64 (0))), none⟩]
def d80_1 : Option (List (List Nat)) := none
def l80_1 : List Nat := []
theorem cd80_1 : dOk d80_1 g80_1 l80_1 = true := by kernel_rfl
def g80_2 : List G := [⟨(some 6), .mv (.t 5), none⟩,
  ⟨(some 7), .fa 2 6 (.t 2), none⟩,
  ⟨(some 8), .ld none (.t 7), none⟩,
  ⟨(some 9), .len (.t 8), none⟩,
  ⟨(some 10), .bin .lss (.t 6) (.t 9), none⟩]
def d80_2 : Option (List (List Nat)) := none
def l80_2 : List Nat := []
theorem cd80_2 : dOk d80_2 g80_2 l80_2 = true := by kernel_rfl
def g80_3 : List G := [⟨(some 13), .fa 2 6 (.t 2), none⟩,
  ⟨(some 14), .ld none (.t 13), none⟩,
  ⟨(some 15), .mv (.t 5), none⟩,
  ⟨(some 16), .is 7 (.t 14) (.t 15), none⟩,
  ⟨(some 17), .fa 0 0 (.t 16), none⟩,
  ⟨(some 18), .ld none (.t 17), none⟩,
  ⟨(some 19), .mv (.t 1), none⟩,
  ⟨(some 20), .bin .eql (.t 18) (.t 19), none⟩]
def d80_3 : Option (List (List Nat)) := none
def l80_3 : List Nat := []
theorem cd80_3 : dOk d80_3 g80_3 l80_3 = true := by kernel_rfl
def g80_4 : List G := [⟨(some 21), .mv (.t 5), none⟩,
  ⟨(some 4), .mv (.t 21), none⟩]
def d80_4 : Option (List (List Nat)) := none
def l80_4 : List Nat := []
theorem cd80_4 : dOk d80_4 g80_4 l80_4 = true := by kernel_rfl
def g80_5 : List G := [⟨(some 11), .mv (.t 5), none⟩,
  ⟨(some 12), .bin .add (.t 11) (.c (.int .i64 (1))), none⟩,
  ⟨(some 5), .mv (.t 12), none⟩]
def d80_5 : Option (List (List Nat)) := none
def l80_5 : List Nat := []
theorem cd80_5 : dOk d80_5 g80_5 l80_5 = true := by kernel_rfl
def g80_6 : List G := [⟨(some 4), .mv (.c (.int .i64 (-1))), none⟩]
def d80_6 : Option (List (List Nat)) := none
def l80_6 : List Nat := []
theorem cd80_6 : dOk d80_6 g80_6 l80_6 = true := by kernel_rfl
def c80 : AC := (.seq (.reg d80_0 g80_0) (.seq (.seq (.reg d80_1 g80_1) (.block 0 (.loop (.seq (.seq (.reg d80_2 g80_2) (.cond (.t 10) .skip (.exit 0))) (.seq (.block 1 (.seq (.reg d80_3 g80_3) (.cond (.t 20) (.seq (.reg d80_4 g80_4) .ret) .skip))) (.reg d80_5 g80_5)))))) (.seq (.reg d80_6 g80_6) .ret)))
def r80 : List RV := [.tmp 4]
theorem cc80 : (Try.f80.body.bind (cCode Try.prog Try.f80.ntmps)) = some c80 := by kernel_rfl
theorem cr80 : cRes Try.prog Try.f80.results.toList = some r80 := by kernel_rfl
theorem ca80 : callable Try.prog 80 = true := by kernel_rfl
def g81_0 : List G := [⟨(some 2), .mv (.c (.nils 1)), none⟩]
def d81_0 : Option (List (List Nat)) := none
def l81_0 : List Nat := []
theorem cd81_0 : dOk d81_0 g81_0 l81_0 = true := by kernel_rfl
def g81_1 : List G := [⟨(some 3), .mv (.c (.nils 1)), none⟩]
def d81_1 : Option (List (List Nat)) := none
def l81_1 : List Nat := []
theorem cd81_1 : dOk d81_1 g81_1 l81_1 = true := by kernel_rfl
def g81_2 : List G := [⟨(some 5), .mv (.c (.int .i64 (0))), none⟩]
def d81_2 : Option (List (List Nat)) := none
def l81_2 : List Nat := []
theorem cd81_2 : dOk d81_2 g81_2 l81_2 = true := by kernel_rfl
def g81_3 : List G := [⟨(some 6), .bin .lss (.t 5) (.c (.int .i64 (5))), none⟩]
def d81_3 : Option (List (List Nat)) := none
def l81_3 : List Nat := []
theorem cd81_3 : dOk d81_3 g81_3 l81_3 = true := by kernel_rfl
def g81_4 : List G := [⟨(some 7), .mv (.t 5), none⟩,
  ⟨(some 4), .mv (.t 7), none⟩]
def d81_4 : Option (List (List Nat)) := none
def l81_4 : List Nat := []
theorem cd81_4 : dOk d81_4 g81_4 l81_4 = true := by kernel_rfl
def g81_5 : List G := [⟨(some 8), .mv (.t 0), none⟩,
  ⟨(some 9), .mv (.t 4), none⟩,
  ⟨(some 10), .call 110 [(.t 8), (.t 9)], none⟩]
def d81_5 : Option (List (List Nat)) := none
def l81_5 : List Nat := []
theorem cd81_5 : dOk d81_5 g81_5 l81_5 = true := by kernel_rfl
def g81_6 : List G := [⟨(some 11), .mv (.t 3), none⟩,
  ⟨(some 12), .mv (.t 4), none⟩,
  ⟨(some 13), .bs 1 [(.t 12)], none⟩,
  ⟨(some 14), .app 3 1 8 (.int .i64 (0)) (.t 11) (.t 13), none⟩,
  ⟨(some 3), .mv (.t 14), none⟩]
def d81_6 : Option (List (List Nat)) := none
def l81_6 : List Nat := []
theorem cd81_6 : dOk d81_6 g81_6 l81_6 = true := by kernel_rfl
def g81_7 : List G := [⟨(some 15), .bin .add (.t 5) (.c (.int .i64 (1))), none⟩,
  ⟨(some 5), .mv (.t 15), none⟩]
def d81_7 : Option (List (List Nat)) := none
def l81_7 : List Nat := []
theorem cd81_7 : dOk d81_7 g81_7 l81_7 = true := by kernel_rfl
def g81_8 : List G := [⟨(some 16), .mv (.t 3), none⟩,
  ⟨(some 2), .mv (.t 16), none⟩]
def d81_8 : Option (List (List Nat)) := none
def l81_8 : List Nat := []
theorem cd81_8 : dOk d81_8 g81_8 l81_8 = true := by kernel_rfl
def c81 : AC := (.seq (.reg d81_0 g81_0) (.seq (.reg d81_1 g81_1) (.seq (.seq (.reg d81_2 g81_2) (.block 0 (.loop (.seq (.reg d81_3 g81_3) (.seq (.cond (.t 6) .skip (.exit 0)) (.seq (.block 1 (.seq (.reg d81_4 g81_4) (.seq (.reg d81_5 g81_5) (.cond (.t 10) (.reg d81_6 g81_6) .skip)))) (.reg d81_7 g81_7))))))) (.seq (.reg d81_8 g81_8) .ret))))
def r81 : List RV := [.tmp 2]
theorem cc81 : (Try.f81.body.bind (cCode Try.prog Try.f81.ntmps)) = some c81 := by kernel_rfl
theorem cr81 : cRes Try.prog Try.f81.results.toList = some r81 := by kernel_rfl
theorem ca81 : callable Try.prog 81 = true := by kernel_rfl
def g82_0 : List G := [⟨(some 0), .alloc (.agg [.agg [.int .i64 (0), .int .i64 (0), .int .i64 (0), .int .i64 (0), .int .i64 (0)], .int .i64 (0), .nils 7]), none⟩]
def d82_0 : Option (List (List Nat)) := none
def l82_0 : List Nat := []
theorem cd82_0 : dOk d82_0 g82_0 l82_0 = true := by kernel_rfl
def g82_1 : List G := [⟨(some 1), .bld [.int .i64 (0), .int .i64 (0), .int .i64 (0), .int .i64 (0), .int .i64 (0)] [(0, (.c (.int .i64 (1)))), (1, (.c (.int .i64 (3)))), (2, (.c (.int .i64 (4)))), (3, (.c (.int .i64 (24)))), (4, (.c (.int .i64 (24))))], none⟩,
  ⟨(some 2), .bld [.int .i64 (0), .agg [.int .i64 (0), .int .i64 (0), .int .i64 (0), .int .i64 (0), .int .i64 (0), .int .i64 (0)]] [(0, (.c (.int .i64 (1))))], none⟩,
  ⟨(some 3), .bld [.int .i64 (0), .int .i64 (0), .int .i64 (0), .int .i64 (0), .int .i64 (0), .int .i64 (0)] [(0, (.c (.int .i64 (2)))), (1, (.c (.int .i64 (0)))), (2, (.c (.int .i64 (0)))), (3, (.c (.int .i64 (0)))), (4, (.c (.int .i64 (0)))), (5, (.c (.int .i64 (0))))], none⟩,
  ⟨(some 4), .bld [.int .i64 (0), .agg [.int .i64 (0), .int .i64 (0), .int .i64 (0), .int .i64 (0), .int .i64 (0), .int .i64 (0)]] [(0, (.c (.int .i64 (2)))), (1, (.t 3))], none⟩,
  ⟨(some 5), .bld [.int .i64 (0), .int .i64 (0), .int .i64 (0), .int .i64 (0), .int .i64 (0), .int .i64 (0)] [(0, (.c (.int .i64 (3)))), (1, (.c (.int .i64 (0)))), (2, (.c (.int .i64 (0)))), (3, (.c (.int .i64 (0)))), (4, (.c (.int .i64 (0)))), (5, (.c (.int .i64 (2))))], none⟩,
  ⟨(some 6), .bld [.int .i64 (0), .agg [.int .i64 (0), .int .i64 (0), .int .i64 (0), .int .i64 (0), .int .i64 (0), .int .i64 (0)]] [(0, (.c (.int .i64 (3)))), (1, (.t 5))], none⟩,
  ⟨(some 7), .bs 7 [(.t 2), (.t 4), (.t 6)], none⟩,
  ⟨(some 8), .bld [.agg [.int .i64 (0), .int .i64 (0), .int .i64 (0), .int .i64 (0), .int .i64 (0)], .int .i64 (0), .nils 7] [(0, (.t 1)), (2, (.t 7))], none⟩,
  ⟨none, .st (some 7) (.t 0) (.t 8), none⟩]
def d82_1 : Option (List (List Nat)) := none
def l82_1 : List Nat := []
theorem cd82_1 : dOk d82_1 g82_1 l82_1 = true := by kernel_rfl
def c82 : AC := (.seq (.reg d82_0 g82_0) (.seq (.reg d82_1 g82_1) .ret))
def r82 : List RV := [.cell 0 (some 7)]
theorem cc82 : (Try.f82.body.bind (cCode Try.prog Try.f82.ntmps)) = some c82 := by kernel_rfl
theorem cr82 : cRes Try.prog Try.f82.results.toList = some r82 := by kernel_rfl
theorem ca82 : callable Try.prog 82 = true := by kernel_rfl
def g83_0 : List G := [⟨(some 2), .box (.t 0), none⟩,
  ⟨(some 3), .box (.t 1), none⟩,
  ⟨(some 4), .mv (.c (.bool false)), none⟩]
def d83_0 : Option (List (List Nat)) := none
def l83_0 : List Nat := []
theorem cd83_0 : dOk d83_0 g83_0 l83_0 = true := by kernel_rfl
def g83_1 : List G := [⟨(some 5), .mv (.c (.int .i64 (0))), none⟩]
def d83_1 : Option (List (List Nat)) := none
def l83_1 : List Nat := []
theorem cd83_1 : dOk d83_1 g83_1 l83_1 = true := by kernel_rfl
def g83_2 : List G := [⟨(some 6), .mv (.t 5), none⟩,
  ⟨(some 7), .fa 2 6 (.t 2), none⟩,
  ⟨(some 8), .ld none (.t 7), none⟩,
  ⟨(some 9), .len (.t 8), none⟩,
  ⟨(some 10), .bin .lss (.t 6) (.t 9), none⟩]
def d83_2 : Option (List (List Nat)) := none
def l83_2 : List Nat := []
theorem cd83_2 : dOk d83_2 g83_2 l83_2 = true := by kernel_rfl
def g83_3 : List G := [⟨(some 13), .fa 0 0 (.t 2), none⟩,
  ⟨(some 14), .ld (some 5) (.t 13), none⟩,
  ⟨(some 15), .fa 2 6 (.t 2), none⟩,
  ⟨(some 16), .ld none (.t 15), none⟩,
  ⟨(some 17), .mv (.t 5), none⟩,
  ⟨(some 18), .is 7 (.t 16) (.t 17), none⟩,
  ⟨(some 19), .fa 1 1 (.t 18), none⟩,
  ⟨(some 20), .ld (some 6) (.t 19), none⟩,
  ⟨(some 21), .ld (some 6) (.t 3), none⟩,
  ⟨(some 22), .call 99 [(.t 14), (.t 20), (.t 21)], none⟩,
  ⟨(some 23), .fa 1 5 (.t 2), none⟩,
  ⟨(some 24), .ld none (.t 23), none⟩,
  ⟨(some 25), .bin .mul (.c (.int .i64 (2))) (.t 24), none⟩,
  ⟨(some 26), .bin .leq (.t 22) (.t 25), none⟩]
def d83_3 : Option (List (List Nat)) := (some [[], [0], [], [2], [], [3, 4], [5], [6], [], [1, 7, 8], [], [10], [11], [9, 12]])
def l83_3 : List Nat := [0, 1, 0, 4, 0, 28, 60, 124, 0, 511, 0, 1024, 3072, 8191]
theorem cd83_3 : dOk d83_3 g83_3 l83_3 = true := by kernel_rfl
def g83_4 : List G := [⟨(some 4), .mv (.c (.bool true)), none⟩]
def d83_4 : Option (List (List Nat)) := none
def l83_4 : List Nat := []
theorem cd83_4 : dOk d83_4 g83_4 l83_4 = true := by kernel_rfl
def g83_5 : List G := [⟨(some 11), .mv (.t 5), none⟩,
  ⟨(some 12), .bin .add (.t 11) (.c (.int .i64 (1))), none⟩,
  ⟨(some 5), .mv (.t 12), none⟩]
def d83_5 : Option (List (List Nat)) := none
def l83_5 : List Nat := []
theorem cd83_5 : dOk d83_5 g83_5 l83_5 = true := by kernel_rfl
def g83_6 : List G := [⟨(some 4), .mv (.c (.bool false)), none⟩]
def d83_6 : Option (List (List Nat)) := none
def l83_6 : List Nat := []
theorem cd83_6 : dOk d83_6 g83_6 l83_6 = true := by kernel_rfl
def c83 : AC := (.seq (.reg d83_0 g83_0) (.seq (.seq (.reg d83_1 g83_1) (.block 0 (.loop (.seq (.seq (.reg d83_2 g83_2) (.cond (.t 10) .skip (.exit 0))) (.seq (.block 1 (.seq (.reg d83_3 g83_3) (.cond (.t 26) (.seq (.reg d83_4 g83_4) .ret) .skip))) (.reg d83_5 g83_5)))))) (.seq (.reg d83_6 g83_6) .ret)))
def r83 : List RV := [.tmp 4]
theorem cc83 : (Try.f83.body.bind (cCode Try.prog Try.f83.ntmps)) = some c83 := by kernel_rfl
theorem cr83 : cRes Try.prog Try.f83.results.toList = some r83 := by kernel_rfl
theorem ca83 : callable Try.prog 83 = true := by kernel_rfl
def g85_0 : List G := [⟨(some 2), .mv (.c (.nils 7)), none⟩]
def d85_0 : Option (List (List Nat)) := none
def l85_0 : List Nat := []
theorem cd85_0 : dOk d85_0 g85_0 l85_0 = true := by kernel_rfl
def g85_1 : List G := [⟨(some 3), .mv (.t 0), none⟩,
  ⟨(some 4), .nilS false (.t 3), none⟩]
def d85_1 : Option (List (List Nat)) := none
def l85_1 : List Nat := []
theorem cd85_1 : dOk d85_1 g85_1 l85_1 = true := by kernel_rfl
def g85_2 : List G := [⟨(some 2), .mv (.c (.nils 7)), none⟩]
def d85_2 : Option (List (List Nat)) := none
def l85_2 : List Nat := []
theorem cd85_2 : dOk d85_2 g85_2 l85_2 = true := by kernel_rfl
def g85_3 : List G := [⟨(some 5), .bs0 7, none⟩,
  ⟨(some 6), .mv (.t 0), none⟩,
  ⟨(some 7), .app 43 7 56 (.agg [.int .i64 (0), .agg [.int .i64 (0), .int .i64 (0), .int .i64 (0), .int .i64 (0), .int .i64 (0), .int .i64 (0)]]) (.t 5) (.t 6), none⟩,
  ⟨(some 2), .mv (.t 7), none⟩]
def d85_3 : Option (List (List Nat)) := none
def l85_3 : List Nat := []
theorem cd85_3 : dOk d85_3 g85_3 l85_3 = true := by kernel_rfl
def c85 : AC := (.seq (.reg d85_0 g85_0) (.seq (.seq (.reg d85_1 g85_1) (.cond (.t 4) (.seq (.reg d85_2 g85_2) .ret) .skip)) (.seq (.reg d85_3 g85_3) .ret)))
def r85 : List RV := [.tmp 2]
theorem cc85 : (Try.f85.body.bind (cCode Try.prog Try.f85.ntmps)) = some c85 := by kernel_rfl
theorem cr85 : cRes Try.prog Try.f85.results.toList = some r85 := by kernel_rfl
theorem ca85 : callable Try.prog 85 = true := by kernel_rfl
def g87_0 : List G := [⟨(some 3), .box (.t 0), none⟩,
  ⟨(some 4), .box (.t 1), none⟩,
  ⟨(some 5), .box (.t 2), none⟩,
  ⟨(some 6), .mv (.c (.int .i64 (0))), none⟩]
def d87_0 : Option (List (List Nat)) := none
def l87_0 : List Nat := []
theorem cd87_0 : dOk d87_0 g87_0 l87_0 = true := by kernel_rfl
def g87_1 : List G := [⟨(some 7), .alloc (.nilf), none⟩,
  ⟨none, .st none (.t 7) (.c (.func 78 [])), none⟩]
def d87_1 : Option (List (List Nat)) := none
def l87_1 : List Nat := []
theorem cd87_1 : dOk d87_1 g87_1 l87_1 = true := by kernel_rfl
def g87_2 : List G := [⟨(some 8), .mk 112 [(.t 7), (.t 3), (.t 4), (.t 5)], none⟩,
  ⟨(some 9), .call 111 [(.t 8)], none⟩,
  ⟨(some 6), .mv (.t 9), none⟩]
def d87_2 : Option (List (List Nat)) := none
def l87_2 : List Nat := []
theorem cd87_2 : dOk d87_2 g87_2 l87_2 = true := by kernel_rfl
def c87 : AC := (.seq (.reg d87_0 g87_0) (.seq (.reg d87_1 g87_1) (.seq (.reg d87_2 g87_2) .ret)))
def r87 : List RV := [.tmp 6]
theorem cc87 : (Try.f87.body.bind (cCode Try.prog Try.f87.ntmps)) = some c87 := by kernel_rfl
theorem cr87 : cRes Try.prog Try.f87.results.toList = some r87 := by kernel_rfl
theorem ca87 : callable Try.prog 87 = true := by kernel_rfl
def g88_0 : List G := [⟨(some 3), .box (.t 0), none⟩,
  ⟨(some 4), .box (.t 1), none⟩,
  ⟨(some 5), .box (.t 2), none⟩,
  ⟨(some 6), .mv (.c (.int .i64 (0))), none⟩]
def d88_0 : Option (List (List Nat)) := none
def l88_0 : List Nat := []
theorem cd88_0 : dOk d88_0 g88_0 l88_0 = true := by kernel_rfl
def g88_1 : List G := [⟨(some 7), .alloc (.nilf), none⟩,
  ⟨none, .st none (.t 7) (.c (.func 78 [])), none⟩]
def d88_1 : Option (List (List Nat)) := none
def l88_1 : List Nat := []
theorem cd88_1 : dOk d88_1 g88_1 l88_1 = true := by kernel_rfl
def g88_2 : List G := [⟨(some 8), .mk 113 [(.t 7), (.t 3), (.t 4), (.t 5)], none⟩,
  ⟨(some 9), .call 111 [(.t 8)], none⟩,
  ⟨(some 6), .mv (.t 9), none⟩]
def d88_2 : Option (List (List Nat)) := none
def l88_2 : List Nat := []
theorem cd88_2 : dOk d88_2 g88_2 l88_2 = true := by kernel_rfl
def c88 : AC := (.seq (.reg d88_0 g88_0) (.seq (.reg d88_1 g88_1) (.seq (.reg d88_2 g88_2) .ret)))
def r88 : List RV := [.tmp 6]
theorem cc88 : (Try.f88.body.bind (cCode Try.prog Try.f88.ntmps)) = some c88 := by kernel_rfl
theorem cr88 : cRes Try.prog Try.f88.results.toList = some r88 := by kernel_rfl
theorem ca88 : callable Try.prog 88 = true := by kernel_rfl
def g89_0 : List G := [⟨(some 6), .mv (.c (.bool false)), none⟩]
def d89_0 : Option (List (List Nat)) := none
def l89_0 : List Nat := []
theorem cd89_0 : dOk d89_0 g89_0 l89_0 = true := by kernel_rfl
def g89_1 : List G := [⟨(some 7), .mv (.t 1), none⟩,
  ⟨(some 8), .mv (.t 0), none⟩,
  ⟨(some 9), .bin .leq (.t 7) (.t 8), none⟩,
  ⟨(some 10), .mv (.t 9), none⟩,
  ⟨(some 11), .mv (.t 0), some (10, true)⟩,
  ⟨(some 12), .mv (.t 2), some (10, true)⟩,
  ⟨(some 13), .bin .leq (.t 11) (.t 12), some (10, true)⟩,
  ⟨(some 14), .pick (.t 10) (.t 13) (.c (.bool false)), none⟩,
  ⟨(some 6), .mv (.t 14), none⟩]
def d89_1 : Option (List (List Nat)) := none
def l89_1 : List Nat := []
theorem cd89_1 : dOk d89_1 g89_1 l89_1 = true := by kernel_rfl
def c89 : AC := (.seq (.reg d89_0 g89_0) (.seq (.reg d89_1 g89_1) .ret))
def r89 : List RV := [.tmp 6]
theorem cc89 : (Try.f89.body.bind (cCode Try.prog Try.f89.ntmps)) = some c89 := by kernel_rfl
theorem cr89 : cRes Try.prog Try.f89.results.toList = some r89 := by kernel_rfl
theorem ca89 : callable Try.prog 89 = true := by kernel_rfl
def g90_0 : List G := [⟨(some 2), .box (.t 0), none⟩,
  ⟨(some 4), .mv (.c (.int .i64 (0))), none⟩]
def d90_0 : Option (List (List Nat)) := none
def l90_0 : List Nat := []
theorem cd90_0 : dOk d90_0 g90_0 l90_0 = true := by kernel_rfl
def g90_1 : List G := [⟨(some 6), .ld (some 7) (.t 2), none⟩,
  ⟨(some 7), .call 47 [(.t 6)], none⟩,
  ⟨(some 5), .mv (.t 7), none⟩]
def d90_1 : Option (List (List Nat)) := none
def l90_1 : List Nat := []
theorem cd90_1 : dOk d90_1 g90_1 l90_1 = true := by kernel_rfl
def g90_2 : List G := [⟨(some 8), .mv (.t 5), none⟩,
  ⟨(some 9), .bin .neq (.t 8) (.c (.int .i64 (0))), none⟩]
def d90_2 : Option (List (List Nat)) := none
def l90_2 : List Nat := []
theorem cd90_2 : dOk d90_2 g90_2 l90_2 = true := by kernel_rfl
def g90_3 : List G := [⟨(some 10), .mv (.t 5), none⟩,
  ⟨(some 4), .mv (.t 10), none⟩]
def d90_3 : Option (List (List Nat)) := none
def l90_3 : List Nat := []
theorem cd90_3 : dOk d90_3 g90_3 l90_3 = true := by kernel_rfl
def g90_4 : List G := [⟨(some 11), .mv (.t 1), none⟩,
  ⟨(some 12), .call 97 [(.t 11)], none⟩,
  ⟨(some 13), .un .not (.t 12), none⟩]
def d90_4 : Option (List (List Nat)) := none
def l90_4 : List Nat := []
theorem cd90_4 : dOk d90_4 g90_4 l90_4 = true := by kernel_rfl
def g90_5 : List G := [⟨(some 4), .mv (.c (.int .i64 (15))), none⟩]
def d90_5 : Option (List (List Nat)) := none
def l90_5 : List Nat := []
theorem cd90_5 : dOk d90_5 g90_5 l90_5 = true := by kernel_rfl
def g90_6 : List G := [⟨(some 4), .mv (.c (.int .i64 (0))), none⟩]
def d90_6 : Option (List (List Nat)) := none
def l90_6 : List Nat := []
theorem cd90_6 : dOk d90_6 g90_6 l90_6 = true := by kernel_rfl
def c90 : AC := (.seq (.reg d90_0 g90_0) (.seq (.seq (.reg d90_1 g90_1) (.seq (.reg d90_2 g90_2) (.cond (.t 9) (.seq (.reg d90_3 g90_3) .ret) .skip))) (.seq (.seq (.reg d90_4 g90_4) (.cond (.t 13) (.seq (.reg d90_5 g90_5) .ret) .skip)) (.seq (.reg d90_6 g90_6) .ret))))
def r90 : List RV := [.tmp 4]
theorem cc90 : (Try.f90.body.bind (cCode Try.prog Try.f90.ntmps)) = some c90 := by kernel_rfl
theorem cr90 : cRes Try.prog Try.f90.results.toList = some r90 := by kernel_rfl
theorem ca90 : callable Try.prog 90 = true := by kernel_rfl
def g91_0 : List G := [⟨(some 2), .box (.t 0), none⟩,
  ⟨(some 4), .mv (.c (.int .i64 (0))), none⟩,
  ⟨(some 5), .mv (.c (.bool false)), none⟩]
def d91_0 : Option (List (List Nat)) := none
def l91_0 : List Nat := []
theorem cd91_0 : dOk d91_0 g91_0 l91_0 = true := by kernel_rfl
def g91_1 : List G := [⟨(some 6), .fa 2 6 (.t 2), none⟩,
  ⟨(some 7), .ld none (.t 6), none⟩,
  ⟨(some 8), .mv (.t 1), none⟩,
  ⟨(some 9), .call 114 [(.t 7), (.t 8), (.c (.func 115 []))], none⟩,
  ⟨(some 10), .ext (.t 9) 0, none⟩,
  ⟨(some 11), .ext (.t 9) 1, none⟩,
  ⟨(some 4), .mv (.t 10), none⟩,
  ⟨(some 5), .mv (.t 11), none⟩]
def d91_1 : Option (List (List Nat)) := none
def l91_1 : List Nat := []
theorem cd91_1 : dOk d91_1 g91_1 l91_1 = true := by kernel_rfl
def c91 : AC := (.seq (.reg d91_0 g91_0) (.seq (.reg d91_1 g91_1) .ret))
def r91 : List RV := [.tmp 4, .tmp 5]
theorem cc91 : (Try.f91.body.bind (cCode Try.prog Try.f91.ntmps)) = some c91 := by kernel_rfl
theorem cr91 : cRes Try.prog Try.f91.results.toList = some r91 := by kernel_rfl
theorem ca91 : callable Try.prog 91 = true := by kernel_rfl
def g92_0 : List G := [⟨(some 2), .box (.t 0), none⟩,
  ⟨(some 4), .mv (.c (.int .i64 (0))), none⟩]
def d92_0 : Option (List (List Nat)) := none
def l92_0 : List Nat := []
theorem cd92_0 : dOk d92_0 g92_0 l92_0 = true := by kernel_rfl
def g92_1 : List G := [⟨(some 5), .ld (some 7) (.t 2), none⟩,
  ⟨(some 6), .call 48 [(.t 5)], none⟩,
  ⟨(some 7), .bin .neq (.t 6) (.c (.int .i64 (0))), none⟩]
def d92_1 : Option (List (List Nat)) := none
def l92_1 : List Nat := []
theorem cd92_1 : dOk d92_1 g92_1 l92_1 = true := by kernel_rfl
def g92_2 : List G := [⟨(some 4), .mv (.c (.int .i64 (13))), none⟩]
def d92_2 : Option (List (List Nat)) := none
def l92_2 : List Nat := []
theorem cd92_2 : dOk d92_2 g92_2 l92_2 = true := by kernel_rfl
def g92_3 : List G := [⟨(some 8), .mv (.t 1), none⟩,
  ⟨(some 9), .call 94 [(.t 8), (.c (.int .i64 (1))), (.c (.int .i64 (99)))], none⟩,
  ⟨(some 10), .un .not (.t 9), none⟩]
def d92_3 : Option (List (List Nat)) := none
def l92_3 : List Nat := []
theorem cd92_3 : dOk d92_3 g92_3 l92_3 = true := by kernel_rfl
def g92_4 : List G := [⟨(some 4), .mv (.c (.int .i64 (15))), none⟩]
def d92_4 : Option (List (List Nat)) := none
def l92_4 : List Nat := []
theorem cd92_4 : dOk d92_4 g92_4 l92_4 = true := by kernel_rfl
def g92_5 : List G := [⟨(some 4), .mv (.c (.int .i64 (0))), none⟩]
def d92_5 : Option (List (List Nat)) := none
def l92_5 : List Nat := []
theorem cd92_5 : dOk d92_5 g92_5 l92_5 = true := by kernel_rfl
def c92 : AC := (.seq (.reg d92_0 g92_0) (.seq (.seq (.reg d92_1 g92_1) (.cond (.t 7) (.seq (.reg d92_2 g92_2) .ret) .skip)) (.seq (.seq (.reg d92_3 g92_3) (.cond (.t 10) (.seq (.reg d92_4 g92_4) .ret) .skip)) (.seq (.reg d92_5 g92_5) .ret))))
def r92 : List RV := [.tmp 4]
theorem cc92 : (Try.f92.body.bind (cCode Try.prog Try.f92.ntmps)) = some c92 := by kernel_rfl
theorem cr92 : cRes Try.prog Try.f92.results.toList = some r92 := by kernel_rfl
theorem ca92 : callable Try.prog 92 = true := by kernel_rfl
def g93_0 : List G := [⟨(some 1), .box (.t 0), none⟩,
  ⟨(some 2), .mv (.c (.bool false)), none⟩]
def d93_0 : Option (List (List Nat)) := none
def l93_0 : List Nat := []
theorem cd93_0 : dOk d93_0 g93_0 l93_0 = true := by kernel_rfl
def g93_1 : List G := [⟨(some 3), .va 6 1 (.t 1), none⟩,
  ⟨(some 4), .call 75 [(.t 3), (.c (.func 116 []))], none⟩,
  ⟨(some 5), .un .not (.t 4), none⟩,
  ⟨(some 2), .mv (.t 5), none⟩]
def d93_1 : Option (List (List Nat)) := none
def l93_1 : List Nat := []
theorem cd93_1 : dOk d93_1 g93_1 l93_1 = true := by kernel_rfl
def c93 : AC := (.seq (.reg d93_0 g93_0) (.seq (.reg d93_1 g93_1) .ret))
def r93 : List RV := [.tmp 2]
theorem cc93 : (Try.f93.body.bind (cCode Try.prog Try.f93.ntmps)) = some c93 := by kernel_rfl
theorem cr93 : cRes Try.prog Try.f93.results.toList = some r93 := by kernel_rfl
theorem ca93 : callable Try.prog 93 = true := by kernel_rfl
def g94_0 : List G := [⟨(some 6), .mv (.c (.bool false)), none⟩]
def d94_0 : Option (List (List Nat)) := none
def l94_0 : List Nat := []
theorem cd94_0 : dOk d94_0 g94_0 l94_0 = true := by kernel_rfl
def g94_1 : List G := [⟨(some 7), .mv (.t 1), none⟩,
  ⟨(some 8), .mv (.t 0), none⟩,
  ⟨(some 9), .bin .leq (.t 7) (.t 8), none⟩,
  ⟨(some 10), .mv (.t 9), none⟩,
  ⟨(some 11), .mv (.t 0), some (10, true)⟩,
  ⟨(some 12), .mv (.t 2), some (10, true)⟩,
  ⟨(some 13), .bin .leq (.t 11) (.t 12), some (10, true)⟩,
  ⟨(some 14), .pick (.t 10) (.t 13) (.c (.bool false)), none⟩,
  ⟨(some 6), .mv (.t 14), none⟩]
def d94_1 : Option (List (List Nat)) := none
def l94_1 : List Nat := []
theorem cd94_1 : dOk d94_1 g94_1 l94_1 = true := by kernel_rfl
def c94 : AC := (.seq (.reg d94_0 g94_0) (.seq (.reg d94_1 g94_1) .ret))
def r94 : List RV := [.tmp 6]
theorem cc94 : (Try.f94.body.bind (cCode Try.prog Try.f94.ntmps)) = some c94 := by kernel_rfl
theorem cr94 : cRes Try.prog Try.f94.results.toList = some r94 := by kernel_rfl
theorem ca94 : callable Try.prog 94 = true := by kernel_rfl
def g95_0 : List G := [⟨(some 1), .box (.t 0), none⟩,
  ⟨(some 2), .mv (.c (.bool false)), none⟩]
def d95_0 : Option (List (List Nat)) := none
def l95_0 : List Nat := []
theorem cd95_0 : dOk d95_0 g95_0 l95_0 = true := by kernel_rfl
def g95_1 : List G := [⟨(some 6), .ld (some 5) (.t 1), none⟩,
  ⟨(some 7), .mv (.c (.int .i64 (0))), none⟩]
def d95_1 : Option (List (List Nat)) := none
def l95_1 : List Nat := []
theorem cd95_1 : dOk d95_1 g95_1 l95_1 = true := by kernel_rfl
def g95_2 : List G := [⟨(some 8), .bin .lss (.t 7) (.c (.int .i64 (5))), none⟩]
def d95_2 : Option (List (List Nat)) := none
def l95_2 : List Nat := []
theorem cd95_2 : dOk d95_2 g95_2 l95_2 = true := by kernel_rfl
def g95_3 : List G := [⟨(some 9), .mv (.t 7), none⟩,
  ⟨(some 10), .ix 5 1 none (.t 6) (.t 7), none⟩,
  ⟨(some 3), .mv (.t 9), none⟩,
  ⟨(some 4), .mv (.t 10), none⟩]
def d95_3 : Option (List (List Nat)) := none
def l95_3 : List Nat := []
theorem cd95_3 : dOk d95_3 g95_3 l95_3 = true := by kernel_rfl
def g95_4 : List G := [⟨(some 11), .mv (.t 4), none⟩,
  ⟨(some 5), .mv (.t 11), none⟩]
def d95_4 : Option (List (List Nat)) := none
def l95_4 : List Nat := []
theorem cd95_4 : dOk d95_4 g95_4 l95_4 = true := by kernel_rfl
def g95_5 : List G := [⟨(some 12), .mv (.t 5), none⟩,
  ⟨(some 13), .call 117 [(.t 12)], none⟩,
  ⟨(some 14), .un .not (.t 13), none⟩,
  ⟨(some 15), .mv (.t 14), none⟩,
  ⟨(some 16), .mv (.t 5), some (15, false)⟩,
  ⟨(some 17), .mv (.t 3), some (15, false)⟩,
  ⟨(some 18), .call 110 [(.t 16), (.t 17)], some (15, false)⟩,
  ⟨(some 19), .un .not (.t 18), some (15, false)⟩,
  ⟨(some 20), .pick (.t 15) (.c (.bool true)) (.t 19), none⟩]
def d95_5 : Option (List (List Nat)) := none
def l95_5 : List Nat := []
theorem cd95_5 : dOk d95_5 g95_5 l95_5 = true := by kernel_rfl
def g95_6 : List G := [⟨(some 2), .mv (.c (.bool false)), none⟩]
def d95_6 : Option (List (List Nat)) := none
def l95_6 : List Nat := []
theorem cd95_6 : dOk d95_6 g95_6 l95_6 = true := by kernel_rfl
def g95_7 : List G := [⟨(some 21), .bin .add (.t 7) (.c (.int .i64 (1))), none⟩,
  ⟨(some 7), .mv (.t 21), none⟩]
def d95_7 : Option (List (List Nat)) := none
def l95_7 : List Nat := []
theorem cd95_7 : dOk d95_7 g95_7 l95_7 = true := by kernel_rfl
def g95_8 : List G := [⟨(some 2), .mv (.c (.bool true)), none⟩]
def d95_8 : Option (List (List Nat)) := none
def l95_8 : List Nat := []
theorem cd95_8 : dOk d95_8 g95_8 l95_8 = true := by kernel_rfl
def c95 : AC := (.seq (.reg d95_0 g95_0) (.seq (.seq (.reg d95_1 g95_1) (.block 0 (.loop (.seq (.reg d95_2 g95_2) (.seq (.cond (.t 8) .skip (.exit 0)) (.seq (.block 1 (.seq (.reg d95_3 g95_3) (.seq (.reg d95_4 g95_4) (.seq (.reg d95_5 g95_5) (.cond (.t 20) (.seq (.reg d95_6 g95_6) .ret) .skip))))) (.reg d95_7 g95_7))))))) (.seq (.reg d95_8 g95_8) .ret)))
def r95 : List RV := [.tmp 2]
theorem cc95 : (Try.f95.body.bind (cCode Try.prog Try.f95.ntmps)) = some c95 := by kernel_rfl
theorem cr95 : cRes Try.prog Try.f95.results.toList = some r95 := by kernel_rfl
theorem ca95 : callable Try.prog 95 = true := by kernel_rfl
def g96_0 : List G := [⟨(some 1), .box (.t 0), none⟩,
  ⟨(some 2), .mv (.c (.bool false)), none⟩]
def d96_0 : Option (List (List Nat)) := none
def l96_0 : List Nat := []
theorem cd96_0 : dOk d96_0 g96_0 l96_0 = true := by kernel_rfl
def g96_1 : List G := [⟨(some 3), .va 6 1 (.t 1), none⟩,
  ⟨(some 4), .call 75 [(.t 3), (.c (.func 118 []))], none⟩,
  ⟨(some 5), .un .not (.t 4), none⟩,
  ⟨(some 2), .mv (.t 5), none⟩]
def d96_1 : Option (List (List Nat)) := none
def l96_1 : List Nat := []
theorem cd96_1 : dOk d96_1 g96_1 l96_1 = true := by kernel_rfl
def c96 : AC := (.seq (.reg d96_0 g96_0) (.seq (.reg d96_1 g96_1) .ret))
def r96 : List RV := [.tmp 2]
theorem cc96 : (Try.f96.body.bind (cCode Try.prog Try.f96.ntmps)) = some c96 := by kernel_rfl
theorem cr96 : cRes Try.prog Try.f96.results.toList = some r96 := by kernel_rfl
theorem ca96 : callable Try.prog 96 = true := by kernel_rfl
def g97_0 : List G := [⟨(some 2), .mv (.c (.bool false)), none⟩]
def d97_0 : Option (List (List Nat)) := none
def l97_0 : List Nat := []
theorem cd97_0 : dOk d97_0 g97_0 l97_0 = true := by kernel_rfl
def g97_1 : List G := [⟨(some 3), .mv (.t 0), none⟩,
  ⟨(some 4), .call 89 [(.t 3), (.c (.int .i64 (1))), (.c (.int .i64 (99)))], none⟩,
  ⟨(some 2), .mv (.t 4), none⟩]
def d97_1 : Option (List (List Nat)) := none
def l97_1 : List Nat := []
theorem cd97_1 : dOk d97_1 g97_1 l97_1 = true := by kernel_rfl
def c97 : AC := (.seq (.reg d97_0 g97_0) (.seq (.reg d97_1 g97_1) .ret))
def r97 : List RV := [.tmp 2]
theorem cc97 : (Try.f97.body.bind (cCode Try.prog Try.f97.ntmps)) = some c97 := by kernel_rfl
theorem cr97 : cRes Try.prog Try.f97.results.toList = some r97 := by kernel_rfl
theorem ca97 : callable Try.prog 97 = true := by kernel_rfl
def g98_0 : List G := [⟨(some 3), .box (.t 0), none⟩,
  ⟨(some 5), .box (.t 2), none⟩,
  ⟨(some 6), .mv (.c (.bool false)), none⟩]
def d98_0 : Option (List (List Nat)) := none
def l98_0 : List Nat := []
theorem cd98_0 : dOk d98_0 g98_0 l98_0 = true := by kernel_rfl
def g98_1 : List G := [⟨(some 7), .mv (.t 1), none⟩,
  ⟨(some 8), .mk 120 [(.t 3), (.t 5)], none⟩,
  ⟨(some 9), .call 119 [(.t 7), (.t 8)], none⟩,
  ⟨(some 10), .un .not (.t 9), none⟩,
  ⟨(some 6), .mv (.t 10), none⟩]
def d98_1 : Option (List (List Nat)) := none
def l98_1 : List Nat := []
theorem cd98_1 : dOk d98_1 g98_1 l98_1 = true := by kernel_rfl
def c98 : AC := (.seq (.reg d98_0 g98_0) (.seq (.reg d98_1 g98_1) .ret))
def r98 : List RV := [.tmp 6]
theorem cc98 : (Try.f98.body.bind (cCode Try.prog Try.f98.ntmps)) = some c98 := by kernel_rfl
theorem cr98 : cRes Try.prog Try.f98.results.toList = some r98 := by kernel_rfl
theorem ca98 : callable Try.prog 98 = true := by kernel_rfl
def g99_0 : List G := [⟨(some 3), .box (.t 0), none⟩,
  ⟨(some 4), .box (.t 1), none⟩,
  ⟨(some 5), .box (.t 2), none⟩,
  ⟨(some 6), .mv (.c (.int .i64 (0))), none⟩]
def d99_0 : Option (List (List Nat)) := none
def l99_0 : List Nat := []
theorem cd99_0 : dOk d99_0 g99_0 l99_0 = true := by kernel_rfl
def g99_1 : List G := [⟨(some 7), .mv (.c (.int .i64 (0))), none⟩]
def d99_1 : Option (List (List Nat)) := none
def l99_1 : List Nat := []
theorem cd99_1 : dOk d99_1 g99_1 l99_1 = true := by kernel_rfl
def g99_2 : List G := [⟨(some 8), .mv (.c (.int .i64 (0))), none⟩]
def d99_2 : Option (List (List Nat)) := none
def l99_2 : List Nat := []
theorem cd99_2 : dOk d99_2 g99_2 l99_2 = true := by kernel_rfl
def g99_3 : List G := [⟨(some 9), .mv (.t 8), none⟩,
  ⟨(some 10), .bin .lss (.t 9) (.c (.int .i64 (6))), none⟩]
def d99_3 : Option (List (List Nat)) := none
def l99_3 : List Nat := []
theorem cd99_3 : dOk d99_3 g99_3 l99_3 = true := by kernel_rfl
def g99_4 : List G := [⟨(some 13), .mv (.t 8), none⟩,
  ⟨(some 14), .ia 6 1 (.t 4) (.t 13), none⟩,
  ⟨(some 15), .ld none (.t 14), none⟩,
  ⟨(some 16), .ia 5 1 (.t 3) (.t 15), none⟩,
  ⟨(some 17), .ld none (.t 16), none⟩,
  ⟨(some 18), .mv (.t 8), none⟩,
  ⟨(some 19), .ia 6 1 (.t 5) (.t 18), none⟩,
  ⟨(some 20), .ld none (.t 19), none⟩,
  ⟨(some 21), .ia 5 1 (.t 3) (.t 20), none⟩,
  ⟨(some 22), .ld none (.t 21), none⟩,
  ⟨(some 23), .bin .and (.t 17) (.t 22), none⟩,
  ⟨(some 24), .bin .eql (.t 23) (.c (.int .i64 (0))), none⟩]
def d99_4 : Option (List (List Nat)) := (some [[], [0], [1], [2], [3], [], [5], [6], [7], [8], [4, 9], [10]])
def l99_4 : List Nat := [0, 1, 3, 7, 15, 0, 32, 96, 224, 480, 1023, 2047]
theorem cd99_4 : dOk d99_4 g99_4 l99_4 = true := by kernel_rfl
def g99_5 : List G := [⟨(some 25), .mv (.t 7), none⟩,
  ⟨(some 26), .bin .add (.t 25) (.c (.int .i64 (1))), none⟩,
  ⟨(some 7), .mv (.t 26), none⟩]
def d99_5 : Option (List (List Nat)) := none
def l99_5 : List Nat := []
theorem cd99_5 : dOk d99_5 g99_5 l99_5 = true := by kernel_rfl
def g99_6 : List G := [⟨(some 11), .mv (.t 8), none⟩,
  ⟨(some 12), .bin .add (.t 11) (.c (.int .i64 (1))), none⟩,
  ⟨(some 8), .mv (.t 12), none⟩]
def d99_6 : Option (List (List Nat)) := none
def l99_6 : List Nat := []
theorem cd99_6 : dOk d99_6 g99_6 l99_6 = true := by kernel_rfl
def g99_7 : List G := [⟨(some 27), .mv (.t 7), none⟩,
  ⟨(some 6), .mv (.t 27), none⟩]
def d99_7 : Option (List (List Nat)) := none
def l99_7 : List Nat := []
theorem cd99_7 : dOk d99_7 g99_7 l99_7 = true := by kernel_rfl
def c99 : AC := (.seq (.reg d99_0 g99_0) (.seq (.reg d99_1 g99_1) (.seq (.seq (.reg d99_2 g99_2) (.block 0 (.loop (.seq (.seq (.reg d99_3 g99_3) (.cond (.t 10) .skip (.exit 0))) (.seq (.block 1 (.seq (.reg d99_4 g99_4) (.cond (.t 24) (.reg d99_5 g99_5) .skip))) (.reg d99_6 g99_6)))))) (.seq (.reg d99_7 g99_7) .ret))))
def r99 : List RV := [.tmp 6]
theorem cc99 : (Try.f99.body.bind (cCode Try.prog Try.f99.ntmps)) = some c99 := by kernel_rfl
theorem cr99 : cRes Try.prog Try.f99.results.toList = some r99 := by kernel_rfl
theorem ca99 : callable Try.prog 99 = true := by kernel_rfl
def g101_0 : List G := [⟨(some 0), .mv (.c (.nilf)), none⟩]
def d101_0 : Option (List (List Nat)) := none
def l101_0 : List Nat := []
theorem cd101_0 : dOk d101_0 g101_0 l101_0 = true := by kernel_rfl
def g101_1 : List G := [⟨(some 0), .mv (.c (.func 121 [])), none⟩]
def d101_1 : Option (List (List Nat)) := none
def l101_1 : List Nat := []
theorem cd101_1 : dOk d101_1 g101_1 l101_1 = true := by kernel_rfl
def c101 : AC := (.seq (.reg d101_0 g101_0) (.seq (.reg d101_1 g101_1) .ret))
def r101 : List RV := [.tmp 0]
theorem cc101 : (Try.f101.body.bind (cCode Try.prog Try.f101.ntmps)) = some c101 := by kernel_rfl
theorem cr101 : cRes Try.prog Try.f101.results.toList = some r101 := by kernel_rfl
theorem ca101 : callable Try.prog 101 = true := by kernel_rfl
def g102_0 : List G := [⟨(some 2), .box (.t 0), none⟩,
  ⟨(some 3), .box (.t 1), none⟩,
  ⟨(some 4), .alloc (.agg [.agg [.int .i64 (0), .int .i64 (0), .int .i64 (0), .int .i64 (0), .int .i64 (0)], .int .i64 (0), .nils 7]), none⟩]
def d102_0 : Option (List (List Nat)) := none
def l102_0 : List Nat := []
theorem cd102_0 : dOk d102_0 g102_0 l102_0 = true := by kernel_rfl
def g102_1 : List G := [⟨(some 8), .ld (some 7) (.t 2), none⟩,
  ⟨(some 9), .fa 0 0 (.t 3), none⟩,
  ⟨(some 10), .ld none (.t 9), none⟩,
  ⟨(some 11), .call 91 [(.t 8), (.t 10)], none⟩,
  ⟨(some 7), .mv (.t 11), none⟩,
  ⟨(some 12), .ext (.t 7) 0, none⟩,
  ⟨(some 13), .ext (.t 7) 1, none⟩,
  ⟨(some 5), .mv (.t 12), none⟩,
  ⟨(some 6), .mv (.t 13), none⟩]
def d102_1 : Option (List (List Nat)) := none
def l102_1 : List Nat := []
theorem cd102_1 : dOk d102_1 g102_1 l102_1 = true := by kernel_rfl
def g102_2 : List G := [⟨(some 14), .fa 2 6 (.t 2), none⟩,
  ⟨(some 15), .ld none (.t 14), none⟩,
  ⟨(some 16), .call 85 [(.t 15)], none⟩,
  ⟨(some 17), .mv (.t 5), none⟩,
  ⟨(some 18), .ld (some 7) (.t 3), none⟩,
  ⟨(some 19), .bs 7 [(.t 18)], none⟩,
  ⟨(some 20), .call 122 [(.t 16), (.t 17), (.t 19)], none⟩,
  ⟨(some 21), .fa 2 6 (.t 2), none⟩,
  ⟨none, .st none (.t 21) (.t 20), none⟩]
def d102_2 : Option (List (List Nat)) := (some [[], [0], [1], [], [], [4], [2, 3, 5, 2], [0, 1, 2, 3, 4, 5, 6], [7, 6, 6, 0, 1, 2, 3, 4, 5, 6]])
def l102_2 : List Nat := [0, 1, 3, 0, 0, 16, 63, 127, 255]
def g102_3 : List G := [⟨(some 22), .ld (some 7) (.t 2), none⟩,
  ⟨none, .st (some 7) (.t 4) (.t 22), none⟩]
def d102_3 : Option (List (List Nat)) := none
def l102_3 : List Nat := []
theorem cd102_3 : dOk d102_3 g102_3 l102_3 = true := by kernel_rfl
def c102 : AC := (.seq (.reg d102_0 g102_0) (.seq (.reg d102_1 g102_1) (.seq (.reg d102_2 g102_2) (.seq (.reg d102_3 g102_3) .ret))))
def r102 : List RV := [.cell 4 (some 7)]
theorem cc102 : (Try.f102.body.bind (cCode Try.prog Try.f102.ntmps)) = some c102 := by kernel_rfl
theorem cr102 : cRes Try.prog Try.f102.results.toList = some r102 := by kernel_rfl
theorem ca102 : callable Try.prog 102 = true := by kernel_rfl
def g103_0 : List G := [⟨(some 2), .box (.t 0), none⟩,
  ⟨(some 3), .box (.t 1), none⟩,
  ⟨(some 4), .alloc (.agg [.agg [.int .i64 (0), .int .i64 (0), .int .i64 (0), .int .i64 (0), .int .i64 (0)], .int .i64 (0), .nils 7]), none⟩]
def d103_0 : Option (List (List Nat)) := none
def l103_0 : List Nat := []
theorem cd103_0 : dOk d103_0 g103_0 l103_0 = true := by kernel_rfl
def g103_1 : List G := [⟨(some 8), .fa 0 0 (.t 2), none⟩,
  ⟨(some 9), .ld (some 5) (.t 8), none⟩,
  ⟨(some 10), .fa 1 5 (.t 2), none⟩,
  ⟨(some 11), .ld none (.t 10), none⟩,
  ⟨(some 12), .bld [.agg [.int .i64 (0), .int .i64 (0), .int .i64 (0), .int .i64 (0), .int .i64 (0)], .int .i64 (0), .nils 7] [(0, (.t 9)), (1, (.t 11))], none⟩,
  ⟨(some 5), .alloc (.agg [.agg [.int .i64 (0), .int .i64 (0), .int .i64 (0), .int .i64 (0), .int .i64 (0)], .int .i64 (0), .nils 7]), none⟩,
  ⟨none, .st (some 7) (.t 5) (.t 12), none⟩]
def d103_1 : Option (List (List Nat)) := none
def l103_1 : List Nat := []
theorem cd103_1 : dOk d103_1 g103_1 l103_1 = true := by kernel_rfl
def g103_2 : List G := [⟨(some 6), .mv (.c (.bool false)), none⟩]
def d103_2 : Option (List (List Nat)) := none
def l103_2 : List Nat := []
theorem cd103_2 : dOk d103_2 g103_2 l103_2 = true := by kernel_rfl
def g103_3 : List G := [⟨(some 7), .mv (.c (.int .i64 (0))), none⟩]
def d103_3 : Option (List (List Nat)) := none
def l103_3 : List Nat := []
theorem cd103_3 : dOk d103_3 g103_3 l103_3 = true := by kernel_rfl
def g103_4 : List G := [⟨(some 13), .mv (.t 7), none⟩,
  ⟨(some 14), .fa 2 6 (.t 2), none⟩,
  ⟨(some 15), .ld none (.t 14), none⟩,
  ⟨(some 16), .len (.t 15), none⟩,
  ⟨(some 17), .bin .lss (.t 13) (.t 16), none⟩]
def d103_4 : Option (List (List Nat)) := none
def l103_4 : List Nat := []
theorem cd103_4 : dOk d103_4 g103_4 l103_4 = true := by kernel_rfl
def g103_5 : List G := [⟨(some 20), .mv (.t 6), none⟩,
  ⟨(some 21), .un .not (.t 20), none⟩,
  ⟨(some 22), .mv (.t 21), none⟩,
  ⟨(some 23), .fa 2 6 (.t 2), some (22, true)⟩,
  ⟨(some 24), .ld none (.t 23), some (22, true)⟩,
  ⟨(some 25), .mv (.t 7), some (22, true)⟩,
  ⟨(some 26), .is 7 (.t 24) (.t 25), some (22, true)⟩,
  ⟨(some 27), .fa 0 0 (.t 26), some (22, true)⟩,
  ⟨(some 28), .ld none (.t 27), some (22, true)⟩,
  ⟨(some 29), .fa 0 0 (.t 3), some (22, true)⟩,
  ⟨(some 30), .ld none (.t 29), some (22, true)⟩,
  ⟨(some 31), .bin .gtr (.t 28) (.t 30), some (22, true)⟩,
  ⟨(some 32), .pick (.t 22) (.t 31) (.c (.bool false)), none⟩]
def d103_5 : Option (List (List Nat)) := (some [[], [0], [1], [2], [3, 2], [2], [4, 5, 2], [6, 2], [7, 2], [2], [9, 2], [8, 10, 2], [2, 11]])
def l103_5 : List Nat := [0, 1, 3, 7, 15, 7, 63, 127, 255, 7, 519, 2047, 4095]
theorem cd103_5 : dOk d103_5 g103_5 l103_5 = true := by kernel_rfl
def g103_6 : List G := [⟨(some 33), .fa 2 6 (.t 5), none⟩,
  ⟨(some 34), .ld none (.t 33), none⟩,
  ⟨(some 35), .ld (some 7) (.t 3), none⟩,
  ⟨(some 36), .bs 7 [(.t 35)], none⟩,
  ⟨(some 37), .app 43 7 56 (.agg [.int .i64 (0), .agg [.int .i64 (0), .int .i64 (0), .int .i64 (0), .int .i64 (0), .int .i64 (0), .int .i64 (0)]]) (.t 34) (.t 36), none⟩,
  ⟨(some 38), .fa 2 6 (.t 5), none⟩,
  ⟨none, .st none (.t 38) (.t 37), none⟩]
def d103_6 : Option (List (List Nat)) := none
def l103_6 : List Nat := []
theorem cd103_6 : dOk d103_6 g103_6 l103_6 = true := by kernel_rfl
def g103_7 : List G := [⟨(some 6), .mv (.c (.bool true)), none⟩]
def d103_7 : Option (List (List Nat)) := none
def l103_7 : List Nat := []
theorem cd103_7 : dOk d103_7 g103_7 l103_7 = true := by kernel_rfl
def g103_8 : List G := [⟨(some 39), .fa 2 6 (.t 5), none⟩,
  ⟨(some 40), .ld none (.t 39), none⟩,
  ⟨(some 41), .fa 2 6 (.t 2), none⟩,
  ⟨(some 42), .ld none (.t 41), none⟩,
  ⟨(some 43), .mv (.t 7), none⟩,
  ⟨(some 44), .is 7 (.t 42) (.t 43), none⟩,
  ⟨(some 45), .ld (some 7) (.t 44), none⟩,
  ⟨(some 46), .bs 7 [(.t 45)], none⟩,
  ⟨(some 47), .app 43 7 56 (.agg [.int .i64 (0), .agg [.int .i64 (0), .int .i64 (0), .int .i64 (0), .int .i64 (0), .int .i64 (0), .int .i64 (0)]]) (.t 40) (.t 46), none⟩,
  ⟨(some 48), .fa 2 6 (.t 5), none⟩,
  ⟨none, .st none (.t 48) (.t 47), none⟩]
def d103_8 : Option (List (List Nat)) := (some [[], [0], [], [2], [], [3, 4], [5], [6], [1, 7], [0, 1, 2, 3, 4, 5, 6, 7, 8], [9, 8, 8, 0, 1, 2, 3, 4, 5, 6, 7, 8]])
def l103_8 : List Nat := [0, 1, 0, 4, 0, 28, 60, 124, 255, 511, 1023]
theorem cd103_8 : dOk d103_8 g103_8 l103_8 = true := by kernel_rfl
def g103_9 : List G := [⟨(some 18), .mv (.t 7), none⟩,
  ⟨(some 19), .bin .add (.t 18) (.c (.int .i64 (1))), none⟩,
  ⟨(some 7), .mv (.t 19), none⟩]
def d103_9 : Option (List (List Nat)) := none
def l103_9 : List Nat := []
theorem cd103_9 : dOk d103_9 g103_9 l103_9 = true := by kernel_rfl
def g103_10 : List G := [⟨(some 49), .mv (.t 6), none⟩,
  ⟨(some 50), .un .not (.t 49), none⟩]
def d103_10 : Option (List (List Nat)) := none
def l103_10 : List Nat := []
theorem cd103_10 : dOk d103_10 g103_10 l103_10 = true := by kernel_rfl
def g103_11 : List G := [⟨(some 51), .fa 2 6 (.t 5), none⟩,
  ⟨(some 52), .ld none (.t 51), none⟩,
  ⟨(some 53), .ld (some 7) (.t 3), none⟩,
  ⟨(some 54), .bs 7 [(.t 53)], none⟩,
  ⟨(some 55), .app 43 7 56 (.agg [.int .i64 (0), .agg [.int .i64 (0), .int .i64 (0), .int .i64 (0), .int .i64 (0), .int .i64 (0), .int .i64 (0)]]) (.t 52) (.t 54), none⟩,
  ⟨(some 56), .fa 2 6 (.t 5), none⟩,
  ⟨none, .st none (.t 56) (.t 55), none⟩]
def d103_11 : Option (List (List Nat)) := none
def l103_11 : List Nat := []
theorem cd103_11 : dOk d103_11 g103_11 l103_11 = true := by kernel_rfl
def g103_12 : List G := [⟨(some 57), .ld (some 7) (.t 5), none⟩,
  ⟨none, .st (some 7) (.t 4) (.t 57), none⟩]
def d103_12 : Option (List (List Nat)) := none
def l103_12 : List Nat := []
theorem cd103_12 : dOk d103_12 g103_12 l103_12 = true := by kernel_rfl
def c103 : AC := (.seq (.reg d103_0 g103_0) (.seq (.reg d103_1 g103_1) (.seq (.reg d103_2 g103_2) (.seq (.seq (.reg d103_3 g103_3) (.block 0 (.loop (.seq (.seq (.reg d103_4 g103_4) (.cond (.t 17) .skip (.exit 0))) (.seq (.block 1 (.seq (.seq (.reg d103_5 g103_5) (.cond (.t 32) (.seq (.reg d103_6 g103_6) (.reg d103_7 g103_7)) .skip)) (.reg d103_8 g103_8))) (.reg d103_9 g103_9)))))) (.seq (.seq (.reg d103_10 g103_10) (.cond (.t 50) (.reg d103_11 g103_11) .skip)) (.seq (.reg d103_12 g103_12) .ret))))))
def r103 : List RV := [.cell 4 (some 7)]
theorem cc103 : (Try.f103.body.bind (cCode Try.prog Try.f103.ntmps)) = some c103 := by kernel_rfl
theorem cr103 : cRes Try.prog Try.f103.results.toList = some r103 := by kernel_rfl
theorem ca103 : callable Try.prog 103 = true := by kernel_rfl
def g104_0 : List G := [⟨(some 6), .mv (.c (.nils 7)), none⟩]
def d104_0 : Option (List (List Nat)) := none
def l104_0 : List Nat := []
theorem cd104_0 : dOk d104_0 g104_0 l104_0 = true := by kernel_rfl
def g104_1 : List G := [⟨(some 8), .mv (.t 0), none⟩,
  ⟨(some 9), .mv (.t 1), none⟩,
  ⟨(some 10), .mv (.t 2), none⟩,
  ⟨(some 11), .mv (.t 0), none⟩,
  ⟨(some 12), .len (.t 11), none⟩,
  ⟨(some 13), .sl 7 (.t 8) (some (.t 9)) (some (.t 10)) (some (.t 12)), none⟩]
def d104_1 : Option (List (List Nat)) := none
def l104_1 : List Nat := []
theorem cd104_1 : dOk d104_1 g104_1 l104_1 = true := by kernel_rfl
def g104_2 : List G := [⟨(some 14), .mv (.t 1), none⟩,
  ⟨(some 15), .mv (.t 2), none⟩,
  ⟨(some 16), .bin .eql (.t 14) (.t 15), none⟩]
def d104_2 : Option (List (List Nat)) := none
def l104_2 : List Nat := []
theorem cd104_2 : dOk d104_2 g104_2 l104_2 = true := by kernel_rfl
def g104_3 : List G := [⟨(some 17), .mv (.t 0), none⟩,
  ⟨(some 6), .mv (.t 17), none⟩]
def d104_3 : Option (List (List Nat)) := none
def g104_4 : List G := [⟨(some 18), .mv (.t 0), none⟩,
  ⟨(some 19), .len (.t 18), none⟩,
  ⟨(some 7), .mv (.t 19), none⟩]
def d104_4 : Option (List (List Nat)) := none
def l104_4 : List Nat := []
theorem cd104_4 : dOk d104_4 g104_4 l104_4 = true := by kernel_rfl
def g104_5 : List G := [⟨(some 20), .mv (.t 0), none⟩,
  ⟨(some 21), .mv (.t 1), none⟩,
  ⟨(some 22), .sl 7 (.t 20) none (some (.t 21)) none, none⟩,
  ⟨(some 23), .mv (.t 0), none⟩,
  ⟨(some 24), .mv (.t 2), none⟩,
  ⟨(some 25), .sl 7 (.t 23) (some (.t 24)) none none, none⟩,
  ⟨(some 26), .app 43 7 56 (.agg [.int .i64 (0), .agg [.int .i64 (0), .int .i64 (0), .int .i64 (0), .int .i64 (0), .int .i64 (0), .int .i64 (0)]]) (.t 22) (.t 25), none⟩,
  ⟨(some 0), .mv (.t 26), none⟩]
def d104_5 : Option (List (List Nat)) := (some [[], [], [0, 1], [], [], [3, 4], [2, 5], [6, 6, 0, 1, 2, 3, 4, 5, 6]])
def l104_5 : List Nat := [0, 0, 3, 0, 0, 24, 63, 127]
theorem cd104_5 : dOk d104_5 g104_5 l104_5 = true := by kernel_rfl
def g104_6 : List G := [⟨(some 27), .mv (.t 0), none⟩,
  ⟨(some 28), .mv (.t 0), none⟩,
  ⟨(some 29), .len (.t 28), none⟩,
  ⟨(some 30), .mv (.t 7), none⟩,
  ⟨(some 31), .sl 7 (.t 27) (some (.t 29)) (some (.t 30)) none, none⟩,
  ⟨none, .clr 7 (.agg [.int .i64 (0), .agg [.int .i64 (0), .int .i64 (0), .int .i64 (0), .int .i64 (0), .int .i64 (0), .int .i64 (0)]]) (.t 31), none⟩]
def d104_6 : Option (List (List Nat)) := none
def l104_6 : List Nat := []
theorem cd104_6 : dOk d104_6 g104_6 l104_6 = true := by kernel_rfl
def g104_7 : List G := [⟨(some 32), .mv (.t 0), none⟩,
  ⟨(some 6), .mv (.t 32), none⟩]
def d104_7 : Option (List (List Nat)) := none
def l104_7 : List Nat := []
theorem cd104_7 : dOk d104_7 g104_7 l104_7 = true := by kernel_rfl
def c104 : AC := (.seq (.reg d104_0 g104_0) (.seq (.reg d104_1 g104_1) (.seq (.seq (.reg d104_2 g104_2) (.cond (.t 16) (.seq (.reg d104_3 g104_3) .ret) .skip)) (.seq (.reg d104_4 g104_4) (.seq (.reg d104_5 g104_5) (.seq (.reg d104_6 g104_6) (.seq (.reg d104_7 g104_7) .ret)))))))
def r104 : List RV := [.tmp 6]
theorem cc104 : (Try.f104.body.bind (cCode Try.prog Try.f104.ntmps)) = some c104 := by kernel_rfl
theorem cr104 : cRes Try.prog Try.f104.results.toList = some r104 := by kernel_rfl
theorem ca104 : callable Try.prog 104 = true := by kernel_rfl
def g105_0 : List G := [⟨(some 3), .box (.t 0), none⟩,
  ⟨(some 4), .mv (.c (.bool false)), none⟩]
def d105_0 : Option (List (List Nat)) := none
def l105_0 : List Nat := []
theorem cd105_0 : dOk d105_0 g105_0 l105_0 = true := by kernel_rfl
def g105_1 : List G := [⟨(some 5), .fa 0 0 (.t 1), none⟩,
  ⟨(some 6), .ld (some 5) (.t 5), none⟩,
  ⟨(some 7), .fa 1 1 (.t 3), none⟩,
  ⟨(some 8), .ld (some 6) (.t 7), none⟩,
  ⟨(some 9), .ld (some 6) (.t 2), none⟩,
  ⟨(some 10), .call 88 [(.t 6), (.t 8), (.t 9)], none⟩,
  ⟨(some 11), .fa 1 5 (.t 1), none⟩,
  ⟨(some 12), .ld none (.t 11), none⟩,
  ⟨(some 13), .bin .gtr (.t 10) (.t 12), none⟩,
  ⟨(some 4), .mv (.t 13), none⟩]
def d105_1 : Option (List (List Nat)) := (some [[], [0], [], [2], [], [1, 3, 4], [], [6], [5, 7], [8, 5, 0, 1, 2, 3, 4, 5, 6, 7, 8]])
def l105_1 : List Nat := [0, 1, 0, 4, 0, 31, 0, 64, 255, 511]
theorem cd105_1 : dOk d105_1 g105_1 l105_1 = true := by kernel_rfl
def c105 : AC := (.seq (.reg d105_0 g105_0) (.seq (.reg d105_1 g105_1) .ret))
def r105 : List RV := [.tmp 4]
theorem cc105 : (Try.f105.body.bind (cCode Try.prog Try.f105.ntmps)) = some c105 := by kernel_rfl
theorem cr105 : cRes Try.prog Try.f105.results.toList = some r105 := by kernel_rfl
theorem ca105 : callable Try.prog 105 = true := by kernel_rfl
def g106_0 : List G := [⟨(some 4), .mv (.c (.int .i64 (0))), none⟩]
def d106_0 : Option (List (List Nat)) := none
def l106_0 : List Nat := []
theorem cd106_0 : dOk d106_0 g106_0 l106_0 = true := by kernel_rfl
def g106_1 : List G := [⟨(some 7), .mv (.t 0), none⟩,
  ⟨(some 8), .call 123 [(.t 7)], none⟩,
  ⟨(some 5), .mv (.t 8), none⟩]
def d106_1 : Option (List (List Nat)) := none
def l106_1 : List Nat := []
theorem cd106_1 : dOk d106_1 g106_1 l106_1 = true := by kernel_rfl
def g106_2 : List G := [⟨(some 9), .mv (.t 1), none⟩,
  ⟨(some 10), .call 123 [(.t 9)], none⟩,
  ⟨(some 6), .mv (.t 10), none⟩]
def d106_2 : Option (List (List Nat)) := none
def l106_2 : List Nat := []
theorem cd106_2 : dOk d106_2 g106_2 l106_2 = true := by kernel_rfl
def g106_3 : List G := [⟨(some 11), .mv (.t 5), none⟩]
def d106_3 : Option (List (List Nat)) := none
def l106_3 : List Nat := []
theorem cd106_3 : dOk d106_3 g106_3 l106_3 = true := by kernel_rfl
def g106_4 : List G := [⟨(some 12), .mv (.t 6), none⟩]
def d106_4 : Option (List (List Nat)) := none
def g106_5 : List G := [⟨(some 4), .mv (.c (.int .i64 (0))), none⟩]
def d106_5 : Option (List (List Nat)) := none
def g106_6 : List G := [⟨(some 4), .mv (.c (.int .i64 (-1))), none⟩]
def d106_6 : Option (List (List Nat)) := none
def g106_7 : List G := [⟨(some 13), .mv (.t 6), none⟩]
def d106_7 : Option (List (List Nat)) := none
def l106_7 : List Nat := []
theorem cd106_7 : dOk d106_7 g106_7 l106_7 = true := by kernel_rfl
def g106_8 : List G := [⟨(some 4), .mv (.c (.int .i64 (1))), none⟩]
def d106_8 : Option (List (List Nat)) := none
def g106_9 : List G := [⟨(some 14), .mv (.t 0), none⟩,
  ⟨(some 15), .mv (.t 1), none⟩,
  ⟨(some 16), .bin .lss (.t 14) (.t 15), none⟩]
def d106_9 : Option (List (List Nat)) := none
def l106_9 : List Nat := []
theorem cd106_9 : dOk d106_9 g106_9 l106_9 = true := by kernel_rfl
def g106_10 : List G := [⟨(some 4), .mv (.c (.int .i64 (-1))), none⟩]
def d106_10 : Option (List (List Nat)) := none
def l106_10 : List Nat := []
theorem cd106_10 : dOk d106_10 g106_10 l106_10 = true := by kernel_rfl
def g106_11 : List G := [⟨(some 17), .mv (.t 0), none⟩,
  ⟨(some 18), .mv (.t 1), none⟩,
  ⟨(some 19), .bin .gtr (.t 17) (.t 18), none⟩]
def d106_11 : Option (List (List Nat)) := none
def l106_11 : List Nat := []
theorem cd106_11 : dOk d106_11 g106_11 l106_11 = true := by kernel_rfl
def g106_12 : List G := [⟨(some 4), .mv (.c (.int .i64 (1))), none⟩]
def d106_12 : Option (List (List Nat)) := none
def l106_12 : List Nat := []
theorem cd106_12 : dOk d106_12 g106_12 l106_12 = true := by kernel_rfl
def g106_13 : List G := [⟨(some 4), .mv (.c (.int .i64 (0))), none⟩]
def d106_13 : Option (List (List Nat)) := none
def l106_13 : List Nat := []
theorem cd106_13 : dOk d106_13 g106_13 l106_13 = true := by kernel_rfl
def c106 : AC := (.seq (.reg d106_0 g106_0) (.seq (.reg d106_1 g106_1) (.seq (.reg d106_2 g106_2) (.seq (.seq (.reg d106_3 g106_3) (.cond (.t 11) (.seq (.seq (.reg d106_4 g106_4) (.cond (.t 12) (.seq (.reg d106_5 g106_5) .ret) .skip)) (.seq (.reg d106_6 g106_6) .ret)) .skip)) (.seq (.seq (.reg d106_7 g106_7) (.cond (.t 13) (.seq (.reg d106_8 g106_8) .ret) .skip)) (.seq (.seq (.reg d106_9 g106_9) (.cond (.t 16) (.seq (.reg d106_10 g106_10) .ret) .skip)) (.seq (.seq (.reg d106_11 g106_11) (.cond (.t 19) (.seq (.reg d106_12 g106_12) .ret) .skip)) (.seq (.reg d106_13 g106_13) .ret))))))))
def r106 : List RV := [.tmp 4]
theorem cc106 : (Try.f106.body.bind (cCode Try.prog Try.f106.ntmps)) = some c106 := by kernel_rfl
theorem cr106 : cRes Try.prog Try.f106.results.toList = some r106 := by kernel_rfl
theorem ca106 : callable Try.prog 106 = true := by kernel_rfl
def g107_0 : List G := [⟨(some 5), .mv (.c (.bool false)), none⟩]
def d107_0 : Option (List (List Nat)) := none
def l107_0 : List Nat := []
theorem cd107_0 : dOk d107_0 g107_0 l107_0 = true := by kernel_rfl
def g107_1 : List G := [⟨(some 6), .ld (some 5) (.t 1), none⟩,
  ⟨(some 7), .fa 1 1 (.t 2), none⟩,
  ⟨(some 8), .ld (some 6) (.t 7), none⟩,
  ⟨(some 9), .mv (.t 0), none⟩,
  ⟨(some 10), .call 77 [(.t 6), (.t 8), (.t 9)], none⟩,
  ⟨(some 11), .ld (some 5) (.t 1), none⟩,
  ⟨(some 12), .fa 1 1 (.t 3), none⟩,
  ⟨(some 13), .ld (some 6) (.t 12), none⟩,
  ⟨(some 14), .mv (.t 0), none⟩,
  ⟨(some 15), .call 77 [(.t 11), (.t 13), (.t 14)], none⟩,
  ⟨(some 16), .call 78 [(.t 10), (.t 15)], none⟩,
  ⟨(some 17), .un .not (.t 16), none⟩,
  ⟨(some 5), .mv (.t 17), none⟩]
def d107_1 : Option (List (List Nat)) := (some [[], [], [1], [], [0, 2, 3], [], [], [6], [], [5, 7, 8, 4], [4, 9, 9], [10], [11, 10, 0, 1, 2, 3, 4, 5, 6, 7, 8, 9, 10, 11]])
def l107_1 : List Nat := [0, 0, 2, 0, 15, 0, 0, 64, 0, 511, 1023, 2047, 4095]
theorem cd107_1 : dOk d107_1 g107_1 l107_1 = true := by kernel_rfl
def c107 : AC := (.seq (.reg d107_0 g107_0) (.seq (.reg d107_1 g107_1) .ret))
def r107 : List RV := [.tmp 5]
theorem cc107 : (Try.f107.body.bind (cCode Try.prog Try.f107.ntmps)) = some c107 := by kernel_rfl
theorem cr107 : cRes Try.prog Try.f107.results.toList = some r107 := by kernel_rfl
theorem ca107 : callable Try.prog 107 = true := by kernel_rfl
def g108_0 : List G := [⟨(some 4), .mv (.c (.int .i64 (0))), none⟩]
def d108_0 : Option (List (List Nat)) := none
def l108_0 : List Nat := []
theorem cd108_0 : dOk d108_0 g108_0 l108_0 = true := by kernel_rfl
def g108_1 : List G := [⟨(some 6), .mv (.t 0), none⟩,
  ⟨(some 7), .len (.t 6), none⟩,
  ⟨(some 8), .mv (.c (.int .i64 (0))), none⟩]
def d108_1 : Option (List (List Nat)) := none
def l108_1 : List Nat := []
theorem cd108_1 : dOk d108_1 g108_1 l108_1 = true := by kernel_rfl
def g108_2 : List G := [⟨(some 9), .bin .lss (.t 8) (.t 7), none⟩]
def d108_2 : Option (List (List Nat)) := none
def l108_2 : List Nat := []
theorem cd108_2 : dOk d108_2 g108_2 l108_2 = true := by kernel_rfl
def g108_3 : List G := [⟨(some 10), .mv (.t 8), none⟩,
  ⟨(some 5), .mv (.t 10), none⟩]
def d108_3 : Option (List (List Nat)) := none
def l108_3 : List Nat := []
theorem cd108_3 : dOk d108_3 g108_3 l108_3 = true := by kernel_rfl
def g108_4 : List G := [⟨(some 11), .mv (.t 1), none⟩,
  ⟨(some 12), .mv (.t 0), none⟩,
  ⟨(some 13), .mv (.t 5), none⟩,
  ⟨(some 14), .is 7 (.t 12) (.t 13), none⟩,
  ⟨(some 15), .ld (some 7) (.t 14), none⟩,
  ⟨(some 16), .callv (.t 11) [(.t 15)], none⟩]
def d108_4 : Option (List (List Nat)) := none
def l108_4 : List Nat := []
theorem cd108_4 : dOk d108_4 g108_4 l108_4 = true := by kernel_rfl
def g108_5 : List G := [⟨(some 17), .mv (.t 5), none⟩,
  ⟨(some 4), .mv (.t 17), none⟩]
def d108_5 : Option (List (List Nat)) := none
def l108_5 : List Nat := []
theorem cd108_5 : dOk d108_5 g108_5 l108_5 = true := by kernel_rfl
def g108_6 : List G := [⟨(some 18), .bin .add (.t 8) (.c (.int .i64 (1))), none⟩,
  ⟨(some 8), .mv (.t 18), none⟩]
def d108_6 : Option (List (List Nat)) := none
def l108_6 : List Nat := []
theorem cd108_6 : dOk d108_6 g108_6 l108_6 = true := by kernel_rfl
def g108_7 : List G := [⟨(some 4), .mv (.c (.int .i64 (-1))), none⟩]
def d108_7 : Option (List (List Nat)) := none
def l108_7 : List Nat := []
theorem cd108_7 : dOk d108_7 g108_7 l108_7 = true := by kernel_rfl
def c108 : AC := (.seq (.reg d108_0 g108_0) (.seq (.seq (.reg d108_1 g108_1) (.block 0 (.loop (.seq (.reg d108_2 g108_2) (.seq (.cond (.t 9) .skip (.exit 0)) (.seq (.block 1 (.seq (.reg d108_3 g108_3) (.seq (.reg d108_4 g108_4) (.cond (.t 16) (.seq (.reg d108_5 g108_5) .ret) .skip)))) (.reg d108_6 g108_6))))))) (.seq (.reg d108_7 g108_7) .ret)))
def r108 : List RV := [.tmp 4]
theorem cc108 : (Try.f108.body.bind (cCode Try.prog Try.f108.ntmps)) = some c108 := by kernel_rfl
theorem cr108 : cRes Try.prog Try.f108.results.toList = some r108 := by kernel_rfl
theorem ca108 : callable Try.prog 108 = true := by kernel_rfl
def g109_0 : List G := [⟨(some 4), .mv (.c (.int .i64 (0))), none⟩]
def d109_0 : Option (List (List Nat)) := none
def l109_0 : List Nat := []
theorem cd109_0 : dOk d109_0 g109_0 l109_0 = true := by kernel_rfl
def g109_1 : List G := [⟨(some 6), .mv (.t 0), none⟩,
  ⟨(some 7), .len (.t 6), none⟩,
  ⟨(some 8), .mv (.c (.int .i64 (0))), none⟩]
def d109_1 : Option (List (List Nat)) := none
def l109_1 : List Nat := []
theorem cd109_1 : dOk d109_1 g109_1 l109_1 = true := by kernel_rfl
def g109_2 : List G := [⟨(some 9), .bin .lss (.t 8) (.t 7), none⟩]
def d109_2 : Option (List (List Nat)) := none
def l109_2 : List Nat := []
theorem cd109_2 : dOk d109_2 g109_2 l109_2 = true := by kernel_rfl
def g109_3 : List G := [⟨(some 10), .mv (.t 8), none⟩,
  ⟨(some 5), .mv (.t 10), none⟩]
def d109_3 : Option (List (List Nat)) := none
def l109_3 : List Nat := []
theorem cd109_3 : dOk d109_3 g109_3 l109_3 = true := by kernel_rfl
def g109_4 : List G := [⟨(some 11), .mv (.t 1), none⟩,
  ⟨(some 12), .mv (.t 0), none⟩,
  ⟨(some 13), .mv (.t 5), none⟩,
  ⟨(some 14), .is 1 (.t 12) (.t 13), none⟩,
  ⟨(some 15), .ld none (.t 14), none⟩,
  ⟨(some 16), .callv (.t 11) [(.t 15)], none⟩]
def d109_4 : Option (List (List Nat)) := none
def l109_4 : List Nat := []
theorem cd109_4 : dOk d109_4 g109_4 l109_4 = true := by kernel_rfl
def g109_5 : List G := [⟨(some 17), .mv (.t 5), none⟩,
  ⟨(some 4), .mv (.t 17), none⟩]
def d109_5 : Option (List (List Nat)) := none
def l109_5 : List Nat := []
theorem cd109_5 : dOk d109_5 g109_5 l109_5 = true := by kernel_rfl
def g109_6 : List G := [⟨(some 18), .bin .add (.t 8) (.c (.int .i64 (1))), none⟩,
  ⟨(some 8), .mv (.t 18), none⟩]
def d109_6 : Option (List (List Nat)) := none
def l109_6 : List Nat := []
theorem cd109_6 : dOk d109_6 g109_6 l109_6 = true := by kernel_rfl
def g109_7 : List G := [⟨(some 4), .mv (.c (.int .i64 (-1))), none⟩]
def d109_7 : Option (List (List Nat)) := none
def l109_7 : List Nat := []
theorem cd109_7 : dOk d109_7 g109_7 l109_7 = true := by kernel_rfl
def c109 : AC := (.seq (.reg d109_0 g109_0) (.seq (.seq (.reg d109_1 g109_1) (.block 0 (.loop (.seq (.reg d109_2 g109_2) (.seq (.cond (.t 9) .skip (.exit 0)) (.seq (.block 1 (.seq (.reg d109_3 g109_3) (.seq (.reg d109_4 g109_4) (.cond (.t 16) (.seq (.reg d109_5 g109_5) .ret) .skip)))) (.reg d109_6 g109_6))))))) (.seq (.reg d109_7 g109_7) .ret)))
def r109 : List RV := [.tmp 4]
theorem cc109 : (Try.f109.body.bind (cCode Try.prog Try.f109.ntmps)) = some c109 := by kernel_rfl
theorem cr109 : cRes Try.prog Try.f109.results.toList = some r109 := by kernel_rfl
theorem ca109 : callable Try.prog 109 = true := by kernel_rfl
def g110_0 : List G := [⟨(some 4), .mv (.c (.bool false)), none⟩]
def d110_0 : Option (List (List Nat)) := none
def l110_0 : List Nat := []
theorem cd110_0 : dOk d110_0 g110_0 l110_0 = true := by kernel_rfl
def g110_1 : List G := [⟨(some 5), .mv (.t 0), none⟩,
  ⟨(some 6), .mv (.t 1), none⟩,
  ⟨(some 7), .bin .shr (.t 5) (.t 6), none⟩,
  ⟨(some 8), .bin .and (.t 7) (.c (.int .i64 (1))), none⟩,
  ⟨(some 9), .bin .eql (.t 8) (.c (.int .i64 (1))), none⟩,
  ⟨(some 4), .mv (.t 9), none⟩]
def d110_1 : Option (List (List Nat)) := none
def l110_1 : List Nat := []
theorem cd110_1 : dOk d110_1 g110_1 l110_1 = true := by kernel_rfl
def c110 : AC := (.seq (.reg d110_0 g110_0) (.seq (.reg d110_1 g110_1) .ret))
def r110 : List RV := [.tmp 4]
theorem cc110 : (Try.f110.body.bind (cCode Try.prog Try.f110.ntmps)) = some c110 := by kernel_rfl
theorem cr110 : cRes Try.prog Try.f110.results.toList = some r110 := by kernel_rfl
theorem ca110 : callable Try.prog 110 = true := by kernel_rfl
def g111_0 : List G := [⟨(some 2), .mv (.c (.int .i64 (0))), none⟩]
def d111_0 : Option (List (List Nat)) := none
def l111_0 : List Nat := []
theorem cd111_0 : dOk d111_0 g111_0 l111_0 = true := by kernel_rfl
def g111_1 : List G := [⟨(some 3), .mv (.c (.int .i64 (0))), none⟩]
def d111_1 : Option (List (List Nat)) := none
def l111_1 : List Nat := []
theorem cd111_1 : dOk d111_1 g111_1 l111_1 = true := by kernel_rfl
def g111_2 : List G := [⟨(some 5), .mv (.c (.int .i64 (0))), none⟩]
def d111_2 : Option (List (List Nat)) := none
def l111_2 : List Nat := []
theorem cd111_2 : dOk d111_2 g111_2 l111_2 = true := by kernel_rfl
def g111_3 : List G := [⟨(some 6), .bin .lss (.t 5) (.c (.int .i64 (6))), none⟩]
def d111_3 : Option (List (List Nat)) := none
def l111_3 : List Nat := []
theorem cd111_3 : dOk d111_3 g111_3 l111_3 = true := by kernel_rfl
def g111_4 : List G := [⟨(some 7), .mv (.t 5), none⟩,
  ⟨(some 4), .mv (.t 7), none⟩]
def d111_4 : Option (List (List Nat)) := none
def l111_4 : List Nat := []
theorem cd111_4 : dOk d111_4 g111_4 l111_4 = true := by kernel_rfl
def g111_5 : List G := [⟨(some 8), .mv (.t 0), none⟩,
  ⟨(some 9), .mv (.t 4), none⟩,
  ⟨(some 10), .callv (.t 8) [(.t 9)], none⟩,
  ⟨(some 11), .un .not (.t 10), none⟩]
def d111_5 : Option (List (List Nat)) := none
def l111_5 : List Nat := []
theorem cd111_5 : dOk d111_5 g111_5 l111_5 = true := by kernel_rfl
def g111_6 : List G := [⟨(some 12), .mv (.t 3), none⟩,
  ⟨(some 13), .bin .add (.t 12) (.c (.int .i64 (1))), none⟩,
  ⟨(some 3), .mv (.t 13), none⟩]
def d111_6 : Option (List (List Nat)) := none
def l111_6 : List Nat := []
theorem cd111_6 : dOk d111_6 g111_6 l111_6 = true := by kernel_rfl
def g111_7 : List G := [⟨(some 14), .bin .add (.t 5) (.c (.int .i64 (1))), none⟩,
  ⟨(some 5), .mv (.t 14), none⟩]
def d111_7 : Option (List (List Nat)) := none
def l111_7 : List Nat := []
theorem cd111_7 : dOk d111_7 g111_7 l111_7 = true := by kernel_rfl
def g111_8 : List G := [⟨(some 15), .mv (.t 3), none⟩,
  ⟨(some 2), .mv (.t 15), none⟩]
def d111_8 : Option (List (List Nat)) := none
def l111_8 : List Nat := []
theorem cd111_8 : dOk d111_8 g111_8 l111_8 = true := by kernel_rfl
def c111 : AC := (.seq (.reg d111_0 g111_0) (.seq (.reg d111_1 g111_1) (.seq (.seq (.reg d111_2 g111_2) (.block 0 (.loop (.seq (.reg d111_3 g111_3) (.seq (.cond (.t 6) .skip (.exit 0)) (.seq (.block 1 (.seq (.reg d111_4 g111_4) (.seq (.reg d111_5 g111_5) (.cond (.t 11) (.reg d111_6 g111_6) .skip)))) (.reg d111_7 g111_7))))))) (.seq (.reg d111_8 g111_8) .ret))))
def r111 : List RV := [.tmp 2]
theorem cc111 : (Try.f111.body.bind (cCode Try.prog Try.f111.ntmps)) = some c111 := by kernel_rfl
theorem cr111 : cRes Try.prog Try.f111.results.toList = some r111 := by kernel_rfl
theorem ca111 : callable Try.prog 111 = true := by kernel_rfl
def g112_0 : List G := [⟨(some 6), .mv (.c (.bool false)), none⟩]
def d112_0 : Option (List (List Nat)) := none
def l112_0 : List Nat := []
theorem cd112_0 : dOk d112_0 g112_0 l112_0 = true := by kernel_rfl
def g112_1 : List G := [⟨(some 7), .ld none (.t 1), none⟩,
  ⟨(some 8), .ld (some 5) (.t 2), none⟩,
  ⟨(some 9), .ld (some 6) (.t 3), none⟩,
  ⟨(some 10), .mv (.t 0), none⟩,
  ⟨(some 11), .call 77 [(.t 8), (.t 9), (.t 10)], none⟩,
  ⟨(some 12), .ld (some 5) (.t 2), none⟩,
  ⟨(some 13), .ld (some 6) (.t 4), none⟩,
  ⟨(some 14), .mv (.t 0), none⟩,
  ⟨(some 15), .call 77 [(.t 12), (.t 13), (.t 14)], none⟩,
  ⟨(some 16), .callv (.t 7) [(.t 11), (.t 15)], none⟩,
  ⟨(some 6), .mv (.t 16), none⟩]
def d112_1 : Option (List (List Nat)) := (some [[], [], [], [], [1, 2, 3], [], [], [], [5, 6, 7, 4], [0, 4, 8, 8], [9, 9, 0, 1, 2, 3, 4, 5, 6, 7, 8, 9]])
def l112_1 : List Nat := [0, 0, 0, 0, 14, 0, 0, 0, 254, 511, 1023]
theorem cd112_1 : dOk d112_1 g112_1 l112_1 = true := by kernel_rfl
def c112 : AC := (.seq (.reg d112_0 g112_0) (.seq (.reg d112_1 g112_1) .ret))
def r112 : List RV := [.tmp 6]
theorem cc112 : (Try.f112.body.bind (cCode Try.prog Try.f112.ntmps)) = some c112 := by kernel_rfl
theorem cr112 : cRes Try.prog Try.f112.results.toList = some r112 := by kernel_rfl
theorem ca112 : callable Try.prog 112 = true := by kernel_rfl
def g113_0 : List G := [⟨(some 6), .mv (.c (.bool false)), none⟩]
def d113_0 : Option (List (List Nat)) := none
def l113_0 : List Nat := []
theorem cd113_0 : dOk d113_0 g113_0 l113_0 = true := by kernel_rfl
def g113_1 : List G := [⟨(some 7), .ld none (.t 1), none⟩,
  ⟨(some 8), .ld (some 5) (.t 2), none⟩,
  ⟨(some 9), .ld (some 6) (.t 3), none⟩,
  ⟨(some 10), .mv (.t 0), none⟩,
  ⟨(some 11), .call 77 [(.t 8), (.t 9), (.t 10)], none⟩,
  ⟨(some 12), .mv (.t 0), none⟩,
  ⟨(some 13), .ia 6 1 (.t 4) (.t 12), none⟩,
  ⟨(some 14), .ld none (.t 13), none⟩,
  ⟨(some 15), .callv (.t 7) [(.t 11), (.t 14)], none⟩,
  ⟨(some 6), .mv (.t 15), none⟩]
def d113_1 : Option (List (List Nat)) := (some [[], [], [], [], [1, 2, 3], [], [5], [6], [0, 4, 7, 4], [8, 8, 0, 1, 2, 3, 4, 5, 6, 7, 8]])
def l113_1 : List Nat := [0, 0, 0, 0, 14, 0, 32, 96, 255, 511]
theorem cd113_1 : dOk d113_1 g113_1 l113_1 = true := by kernel_rfl
def c113 : AC := (.seq (.reg d113_0 g113_0) (.seq (.reg d113_1 g113_1) .ret))
def r113 : List RV := [.tmp 6]
theorem cc113 : (Try.f113.body.bind (cCode Try.prog Try.f113.ntmps)) = some c113 := by kernel_rfl
theorem cr113 : cRes Try.prog Try.f113.results.toList = some r113 := by kernel_rfl
theorem ca113 : callable Try.prog 113 = true := by kernel_rfl
def g114_0 : List G := [⟨(some 6), .mv (.c (.int .i64 (0))), none⟩,
  ⟨(some 7), .mv (.c (.bool false)), none⟩]
def d114_0 : Option (List (List Nat)) := none
def l114_0 : List Nat := []
theorem cd114_0 : dOk d114_0 g114_0 l114_0 = true := by kernel_rfl
def g114_1 : List G := [⟨(some 12), .mv (.t 0), none⟩,
  ⟨(some 13), .len (.t 12), none⟩,
  ⟨(some 8), .mv (.t 13), none⟩]
def d114_1 : Option (List (List Nat)) := none
def l114_1 : List Nat := []
theorem cd114_1 : dOk d114_1 g114_1 l114_1 = true := by kernel_rfl
def g114_2 : List G := [⟨(some 14), .mv (.t 8), none⟩,
  ⟨(some 9), .mv (.c (.int .i64 (0))), none⟩,
  ⟨(some 10), .mv (.t 14), none⟩]
def d114_2 : Option (List (List Nat)) := none
def l114_2 : List Nat := []
theorem cd114_2 : dOk d114_2 g114_2 l114_2 = true := by kernel_rfl
def g114_3 : List G := [⟨(some 15), .mv (.t 9), none⟩,
  ⟨(some 16), .mv (.t 10), none⟩,
  ⟨(some 17), .bin .lss (.t 15) (.t 16), none⟩]
def d114_3 : Option (List (List Nat)) := none
def l114_3 : List Nat := []
theorem cd114_3 : dOk d114_3 g114_3 l114_3 = true := by kernel_rfl
def g114_4 : List G := [⟨(some 18), .mv (.t 9), none⟩,
  ⟨(some 19), .mv (.t 10), none⟩,
  ⟨(some 20), .bin .add (.t 18) (.t 19), none⟩,
  ⟨(some 21), .conv .u64 (.t 20), none⟩,
  ⟨(some 22), .bin .shr (.t 21) (.c (.int .u64 (1))), none⟩,
  ⟨(some 23), .conv .i64 (.t 22), none⟩,
  ⟨(some 11), .mv (.t 23), none⟩]
def d114_4 : Option (List (List Nat)) := none
def l114_4 : List Nat := []
theorem cd114_4 : dOk d114_4 g114_4 l114_4 = true := by kernel_rfl
def g114_5 : List G := [⟨(some 24), .mv (.t 2), none⟩,
  ⟨(some 25), .mv (.t 0), none⟩,
  ⟨(some 26), .mv (.t 11), none⟩,
  ⟨(some 27), .is 7 (.t 25) (.t 26), none⟩,
  ⟨(some 28), .ld (some 7) (.t 27), none⟩,
  ⟨(some 29), .mv (.t 1), none⟩,
  ⟨(some 30), .callv (.t 24) [(.t 28), (.t 29)], none⟩,
  ⟨(some 31), .bin .lss (.t 30) (.c (.int .i64 (0))), none⟩]
def d114_5 : Option (List (List Nat)) := none
def l114_5 : List Nat := []
theorem cd114_5 : dOk d114_5 g114_5 l114_5 = true := by kernel_rfl
def g114_6 : List G := [⟨(some 32), .mv (.t 11), none⟩,
  ⟨(some 33), .bin .add (.t 32) (.c (.int .i64 (1))), none⟩,
  ⟨(some 9), .mv (.t 33), none⟩]
def d114_6 : Option (List (List Nat)) := none
def l114_6 : List Nat := []
theorem cd114_6 : dOk d114_6 g114_6 l114_6 = true := by kernel_rfl
def g114_7 : List G := [⟨(some 34), .mv (.t 11), none⟩,
  ⟨(some 10), .mv (.t 34), none⟩]
def d114_7 : Option (List (List Nat)) := none
def l114_7 : List Nat := []
theorem cd114_7 : dOk d114_7 g114_7 l114_7 = true := by kernel_rfl
def g114_8 : List G := [⟨(some 35), .mv (.t 9), none⟩,
  ⟨(some 36), .mv (.t 9), none⟩,
  ⟨(some 37), .mv (.t 8), none⟩,
  ⟨(some 38), .bin .lss (.t 36) (.t 37), none⟩,
  ⟨(some 39), .mv (.t 38), none⟩,
  ⟨(some 40), .mv (.t 2), some (39, true)⟩,
  ⟨(some 41), .mv (.t 0), some (39, true)⟩,
  ⟨(some 42), .mv (.t 9), some (39, true)⟩,
  ⟨(some 43), .is 7 (.t 41) (.t 42), some (39, true)⟩,
  ⟨(some 44), .ld (some 7) (.t 43), some (39, true)⟩,
  ⟨(some 45), .mv (.t 1), some (39, true)⟩,
  ⟨(some 46), .callv (.t 40) [(.t 44), (.t 45)], some (39, true)⟩,
  ⟨(some 47), .bin .eql (.t 46) (.c (.int .i64 (0))), some (39, true)⟩,
  ⟨(some 48), .pick (.t 39) (.t 47) (.c (.bool false)), none⟩,
  ⟨(some 6), .mv (.t 35), none⟩,
  ⟨(some 7), .mv (.t 48), none⟩]
def d114_8 : Option (List (List Nat)) := none
def l114_8 : List Nat := []
theorem cd114_8 : dOk d114_8 g114_8 l114_8 = true := by kernel_rfl
def c114 : AC := (.seq (.reg d114_0 g114_0) (.seq (.reg d114_1 g114_1) (.seq (.reg d114_2 g114_2) (.seq (.block 0 (.loop (.seq (.seq (.reg d114_3 g114_3) (.cond (.t 17) .skip (.exit 0))) (.block 1 (.seq (.reg d114_4 g114_4) (.seq (.reg d114_5 g114_5) (.cond (.t 31) (.reg d114_6 g114_6) (.reg d114_7 g114_7)))))))) (.seq (.reg d114_8 g114_8) .ret)))))
def r114 : List RV := [.tmp 6, .tmp 7]
theorem cc114 : (Try.f114.body.bind (cCode Try.prog Try.f114.ntmps)) = some c114 := by kernel_rfl
theorem cr114 : cRes Try.prog Try.f114.results.toList = some r114 := by kernel_rfl
theorem ca114 : callable Try.prog 114 = true := by kernel_rfl
def g115_0 : List G := [⟨(some 2), .box (.t 0), none⟩,
  ⟨(some 4), .mv (.c (.int .i64 (0))), none⟩]
def d115_0 : Option (List (List Nat)) := none
def l115_0 : List Nat := []
theorem cd115_0 : dOk d115_0 g115_0 l115_0 = true := by kernel_rfl
def g115_1 : List G := [⟨(some 5), .fa 0 0 (.t 2), none⟩,
  ⟨(some 6), .ld none (.t 5), none⟩,
  ⟨(some 7), .mv (.t 1), none⟩,
  ⟨(some 8), .bin .sub (.t 6) (.t 7), none⟩,
  ⟨(some 4), .mv (.t 8), none⟩]
def d115_1 : Option (List (List Nat)) := none
def l115_1 : List Nat := []
theorem cd115_1 : dOk d115_1 g115_1 l115_1 = true := by kernel_rfl
def c115 : AC := (.seq (.reg d115_0 g115_0) (.seq (.reg d115_1 g115_1) .ret))
def r115 : List RV := [.tmp 4]
theorem cc115 : (Try.f115.body.bind (cCode Try.prog Try.f115.ntmps)) = some c115 := by kernel_rfl
theorem cr115 : cRes Try.prog Try.f115.results.toList = some r115 := by kernel_rfl
theorem ca115 : callable Try.prog 115 = true := by kernel_rfl
def g116_0 : List G := [⟨(some 2), .mv (.c (.bool false)), none⟩]
def d116_0 : Option (List (List Nat)) := none
def l116_0 : List Nat := []
theorem cd116_0 : dOk d116_0 g116_0 l116_0 = true := by kernel_rfl
def g116_1 : List G := [⟨(some 3), .mv (.t 0), none⟩,
  ⟨(some 4), .call 89 [(.t 3), (.c (.int .i64 (0))), (.c (.int .i64 (4)))], none⟩,
  ⟨(some 5), .un .not (.t 4), none⟩,
  ⟨(some 2), .mv (.t 5), none⟩]
def d116_1 : Option (List (List Nat)) := none
def l116_1 : List Nat := []
theorem cd116_1 : dOk d116_1 g116_1 l116_1 = true := by kernel_rfl
def c116 : AC := (.seq (.reg d116_0 g116_0) (.seq (.reg d116_1 g116_1) .ret))
def r116 : List RV := [.tmp 2]
theorem cc116 : (Try.f116.body.bind (cCode Try.prog Try.f116.ntmps)) = some c116 := by kernel_rfl
theorem cr116 : cRes Try.prog Try.f116.results.toList = some r116 := by kernel_rfl
theorem ca116 : callable Try.prog 116 = true := by kernel_rfl
def g117_0 : List G := [⟨(some 2), .mv (.c (.bool false)), none⟩]
def d117_0 : Option (List (List Nat)) := none
def l117_0 : List Nat := []
theorem cd117_0 : dOk d117_0 g117_0 l117_0 = true := by kernel_rfl
def g117_1 : List G := [⟨(some 3), .mv (.t 0), none⟩,
  ⟨(some 4), .call 89 [(.t 3), (.c (.int .i64 (0))), (.c (.int .i64 (31)))], none⟩,
  ⟨(some 2), .mv (.t 4), none⟩]
def d117_1 : Option (List (List Nat)) := none
def l117_1 : List Nat := []
theorem cd117_1 : dOk d117_1 g117_1 l117_1 = true := by kernel_rfl
def c117 : AC := (.seq (.reg d117_0 g117_0) (.seq (.reg d117_1 g117_1) .ret))
def r117 : List RV := [.tmp 2]
theorem cc117 : (Try.f117.body.bind (cCode Try.prog Try.f117.ntmps)) = some c117 := by kernel_rfl
theorem cr117 : cRes Try.prog Try.f117.results.toList = some r117 := by kernel_rfl
theorem ca117 : callable Try.prog 117 = true := by kernel_rfl
def g118_0 : List G := [⟨(some 2), .mv (.c (.bool false)), none⟩]
def d118_0 : Option (List (List Nat)) := none
def l118_0 : List Nat := []
theorem cd118_0 : dOk d118_0 g118_0 l118_0 = true := by kernel_rfl
def g118_1 : List G := [⟨(some 3), .mv (.t 0), none⟩,
  ⟨(some 4), .bin .eql (.t 3) (.c (.int .i64 (0))), none⟩,
  ⟨(some 5), .mv (.t 4), none⟩,
  ⟨(some 6), .mv (.t 0), some (5, false)⟩,
  ⟨(some 7), .call 117 [(.t 6)], some (5, false)⟩,
  ⟨(some 8), .un .not (.t 7), some (5, false)⟩,
  ⟨(some 9), .pick (.t 5) (.c (.bool true)) (.t 8), none⟩,
  ⟨(some 2), .mv (.t 9), none⟩]
def d118_1 : Option (List (List Nat)) := none
def l118_1 : List Nat := []
theorem cd118_1 : dOk d118_1 g118_1 l118_1 = true := by kernel_rfl
def c118 : AC := (.seq (.reg d118_0 g118_0) (.seq (.reg d118_1 g118_1) .ret))
def r118 : List RV := [.tmp 2]
theorem cc118 : (Try.f118.body.bind (cCode Try.prog Try.f118.ntmps)) = some c118 := by kernel_rfl
theorem cr118 : cRes Try.prog Try.f118.results.toList = some r118 := by kernel_rfl
theorem ca118 : callable Try.prog 118 = true := by kernel_rfl
def g119_0 : List G := [⟨(some 4), .mv (.c (.bool false)), none⟩]
def d119_0 : Option (List (List Nat)) := none
def l119_0 : List Nat := []
theorem cd119_0 : dOk d119_0 g119_0 l119_0 = true := by kernel_rfl
def g119_1 : List G := [⟨(some 5), .mv (.t 0), none⟩,
  ⟨(some 6), .mv (.t 1), none⟩,
  ⟨(some 7), .call 108 [(.t 5), (.t 6)], none⟩,
  ⟨(some 8), .bin .geq (.t 7) (.c (.int .i64 (0))), none⟩,
  ⟨(some 4), .mv (.t 8), none⟩]
def d119_1 : Option (List (List Nat)) := none
def l119_1 : List Nat := []
theorem cd119_1 : dOk d119_1 g119_1 l119_1 = true := by kernel_rfl
def c119 : AC := (.seq (.reg d119_0 g119_0) (.seq (.reg d119_1 g119_1) .ret))
def r119 : List RV := [.tmp 4]
theorem cc119 : (Try.f119.body.bind (cCode Try.prog Try.f119.ntmps)) = some c119 := by kernel_rfl
theorem cr119 : cRes Try.prog Try.f119.results.toList = some r119 := by kernel_rfl
theorem ca119 : callable Try.prog 119 = true := by kernel_rfl
def g120_0 : List G := [⟨(some 3), .box (.t 0), none⟩,
  ⟨(some 4), .mv (.c (.bool false)), none⟩]
def d120_0 : Option (List (List Nat)) := none
def l120_0 : List Nat := []
theorem cd120_0 : dOk d120_0 g120_0 l120_0 = true := by kernel_rfl
def g120_1 : List G := [⟨(some 5), .fa 0 0 (.t 1), none⟩,
  ⟨(some 6), .ld (some 5) (.t 5), none⟩,
  ⟨(some 7), .fa 1 1 (.t 3), none⟩,
  ⟨(some 8), .ld (some 6) (.t 7), none⟩,
  ⟨(some 9), .ld (some 6) (.t 2), none⟩,
  ⟨(some 10), .call 87 [(.t 6), (.t 8), (.t 9)], none⟩,
  ⟨(some 11), .fa 1 5 (.t 1), none⟩,
  ⟨(some 12), .ld none (.t 11), none⟩,
  ⟨(some 13), .bin .mul (.c (.int .i64 (2))) (.t 12), none⟩,
  ⟨(some 14), .bin .leq (.t 10) (.t 13), none⟩,
  ⟨(some 4), .mv (.t 14), none⟩]
def d120_1 : Option (List (List Nat)) := (some [[], [0], [], [2], [], [1, 3, 4], [], [6], [7], [5, 8], [9, 5, 0, 1, 2, 3, 4, 5, 6, 7, 8, 9]])
def l120_1 : List Nat := [0, 1, 0, 4, 0, 31, 0, 64, 192, 511, 1023]
theorem cd120_1 : dOk d120_1 g120_1 l120_1 = true := by kernel_rfl
def c120 : AC := (.seq (.reg d120_0 g120_0) (.seq (.reg d120_1 g120_1) .ret))
def r120 : List RV := [.tmp 4]
theorem cc120 : (Try.f120.body.bind (cCode Try.prog Try.f120.ntmps)) = some c120 := by kernel_rfl
theorem cr120 : cRes Try.prog Try.f120.results.toList = some r120 := by kernel_rfl
theorem ca120 : callable Try.prog 120 = true := by kernel_rfl
def g121_0 : List G := [⟨(some 2), .alloc (.agg [.int .i64 (0), .int .i64 (0), .int .i64 (0), .int .i64 (0), .int .i64 (0), .int .i64 (0)]), none⟩,
  ⟨(some 3), .alloc (.agg [.int .i64 (0), .int .i64 (0), .int .i64 (0), .int .i64 (0), .int .i64 (0), .int .i64 (0)]), none⟩]
def d121_0 : Option (List (List Nat)) := none
def l121_0 : List Nat := []
theorem cd121_0 : dOk d121_0 g121_0 l121_0 = true := by kernel_rfl
def g121_1 : List G := [⟨(some 6), .mv (.c (.int .i64 (0))), none⟩]
def d121_1 : Option (List (List Nat)) := none
def l121_1 : List Nat := []
theorem cd121_1 : dOk d121_1 g121_1 l121_1 = true := by kernel_rfl
def g121_2 : List G := [⟨(some 7), .bin .lss (.t 6) (.c (.int .i64 (6))), none⟩]
def d121_2 : Option (List (List Nat)) := none
def l121_2 : List Nat := []
theorem cd121_2 : dOk d121_2 g121_2 l121_2 = true := by kernel_rfl
def g121_3 : List G := [⟨(some 8), .mv (.t 6), none⟩,
  ⟨(some 4), .mv (.t 8), none⟩]
def d121_3 : Option (List (List Nat)) := none
def l121_3 : List Nat := []
theorem cd121_3 : dOk d121_3 g121_3 l121_3 = true := by kernel_rfl
def g121_4 : List G := [⟨(some 9), .mv (.t 4), none⟩,
  ⟨(some 10), .ia 6 1 (.t 3) (.t 9), none⟩,
  ⟨none, .st none (.t 10) (.c (.int .i64 (4))), none⟩]
def d121_4 : Option (List (List Nat)) := none
def l121_4 : List Nat := []
theorem cd121_4 : dOk d121_4 g121_4 l121_4 = true := by kernel_rfl
def g121_5 : List G := [⟨(some 11), .bin .add (.t 6) (.c (.int .i64 (1))), none⟩,
  ⟨(some 6), .mv (.t 11), none⟩]
def d121_5 : Option (List (List Nat)) := none
def l121_5 : List Nat := []
theorem cd121_5 : dOk d121_5 g121_5 l121_5 = true := by kernel_rfl
def g121_6 : List G := [⟨(some 12), .mv (.t 0), none⟩,
  ⟨(some 13), .ld (some 6) (.t 2), none⟩,
  ⟨(some 14), .callv (.t 12) [(.t 13)], none⟩,
  ⟨(some 15), .mv (.t 14), none⟩,
  ⟨(some 16), .ld (some 6) (.t 2), some (15, true)⟩,
  ⟨(some 17), .ld (some 6) (.t 3), some (15, true)⟩,
  ⟨(some 18), .eqv (.ar 6 (.i .i64)) true (.t 16) (.t 17), some (15, true)⟩,
  ⟨(some 19), .pick (.t 15) (.t 18) (.c (.bool false)), none⟩]
def d121_6 : Option (List (List Nat)) := none
def l121_6 : List Nat := []
theorem cd121_6 : dOk d121_6 g121_6 l121_6 = true := by kernel_rfl
def g121_7 : List G := [⟨(some 5), .mv (.c (.int .i64 (5))), none⟩]
def d121_7 : Option (List (List Nat)) := none
def l121_7 : List Nat := []
theorem cd121_7 : dOk d121_7 g121_7 l121_7 = true := by kernel_rfl
def g121_8 : List G := [⟨(some 20), .mv (.t 5), none⟩,
  ⟨(some 21), .ia 6 1 (.t 2) (.t 20), none⟩,
  ⟨(some 22), .ld none (.t 21), none⟩,
  ⟨(some 23), .bin .eql (.t 22) (.c (.int .i64 (4))), none⟩]
def d121_8 : Option (List (List Nat)) := none
def l121_8 : List Nat := []
theorem cd121_8 : dOk d121_8 g121_8 l121_8 = true := by kernel_rfl
def g121_9 : List G := [⟨(some 24), .mv (.t 5), none⟩,
  ⟨(some 25), .ia 6 1 (.t 2) (.t 24), none⟩,
  ⟨none, .st none (.t 25) (.c (.int .i64 (0))), none⟩]
def d121_9 : Option (List (List Nat)) := none
def l121_9 : List Nat := []
theorem cd121_9 : dOk d121_9 g121_9 l121_9 = true := by kernel_rfl
def g121_10 : List G := [⟨(some 26), .mv (.t 5), none⟩,
  ⟨(some 27), .bin .sub (.t 26) (.c (.int .i64 (1))), none⟩,
  ⟨(some 5), .mv (.t 27), none⟩]
def d121_10 : Option (List (List Nat)) := none
def l121_10 : List Nat := []
theorem cd121_10 : dOk d121_10 g121_10 l121_10 = true := by kernel_rfl
def g121_11 : List G := [⟨(some 28), .mv (.t 5), none⟩,
  ⟨(some 29), .ia 6 1 (.t 2) (.t 28), none⟩,
  ⟨(some 30), .ld none (.t 29), none⟩,
  ⟨(some 31), .bin .add (.t 30) (.c (.int .i64 (1))), none⟩,
  ⟨(some 32), .ia 6 1 (.t 2) (.t 28), none⟩,
  ⟨none, .st none (.t 32) (.t 31), none⟩]
def d121_11 : Option (List (List Nat)) := none
def l121_11 : List Nat := []
theorem cd121_11 : dOk d121_11 g121_11 l121_11 = true := by kernel_rfl
def c121 : AC := (.seq (.reg d121_0 g121_0) (.seq (.seq (.reg d121_1 g121_1) (.block 0 (.loop (.seq (.reg d121_2 g121_2) (.seq (.cond (.t 7) .skip (.exit 0)) (.seq (.block 1 (.seq (.reg d121_3 g121_3) (.reg d121_4 g121_4))) (.reg d121_5 g121_5))))))) (.block 2 (.loop (.seq (.seq (.reg d121_6 g121_6) (.cond (.t 19) .skip (.exit 2))) (.block 3 (.seq (.reg d121_7 g121_7) (.seq (.block 4 (.loop (.seq (.seq (.reg d121_8 g121_8) (.cond (.t 23) .skip (.exit 4))) (.block 5 (.seq (.reg d121_9 g121_9) (.reg d121_10 g121_10)))))) (.reg d121_11 g121_11)))))))))
def r121 : List RV := []
theorem cc121 : (Try.f121.body.bind (cCode Try.prog Try.f121.ntmps)) = some c121 := by kernel_rfl
theorem cr121 : cRes Try.prog Try.f121.results.toList = some r121 := by kernel_rfl
theorem ca121 : callable Try.prog 121 = true := by kernel_rfl
def g122_0 : List G := [⟨(some 6), .mv (.c (.nils 7)), none⟩]
def d122_0 : Option (List (List Nat)) := none
def l122_0 : List Nat := []
theorem cd122_0 : dOk d122_0 g122_0 l122_0 = true := by kernel_rfl
def g122_1 : List G := [⟨(some 10), .mv (.t 0), none⟩,
  ⟨(some 11), .mv (.t 1), none⟩,
  ⟨(some 12), .sl 7 (.t 10) (some (.t 11)) none none, none⟩]
def d122_1 : Option (List (List Nat)) := none
def l122_1 : List Nat := []
theorem cd122_1 : dOk d122_1 g122_1 l122_1 = true := by kernel_rfl
def g122_2 : List G := [⟨(some 13), .mv (.t 2), none⟩,
  ⟨(some 14), .len (.t 13), none⟩,
  ⟨(some 7), .mv (.t 14), none⟩]
def d122_2 : Option (List (List Nat)) := none
def l122_2 : List Nat := []
theorem cd122_2 : dOk d122_2 g122_2 l122_2 = true := by kernel_rfl
def g122_3 : List G := [⟨(some 15), .mv (.t 7), none⟩,
  ⟨(some 16), .bin .eql (.t 15) (.c (.int .i64 (0))), none⟩]
def d122_3 : Option (List (List Nat)) := none
def l122_3 : List Nat := []
theorem cd122_3 : dOk d122_3 g122_3 l122_3 = true := by kernel_rfl
def g122_4 : List G := [⟨(some 17), .mv (.t 0), none⟩,
  ⟨(some 6), .mv (.t 17), none⟩]
def d122_4 : Option (List (List Nat)) := none
def g122_5 : List G := [⟨(some 18), .mv (.t 0), none⟩,
  ⟨(some 19), .len (.t 18), none⟩,
  ⟨(some 8), .mv (.t 19), none⟩]
def d122_5 : Option (List (List Nat)) := none
def l122_5 : List Nat := []
theorem cd122_5 : dOk d122_5 g122_5 l122_5 = true := by kernel_rfl
def g122_6 : List G := [⟨(some 20), .mv (.t 1), none⟩,
  ⟨(some 21), .mv (.t 8), none⟩,
  ⟨(some 22), .bin .eql (.t 20) (.t 21), none⟩]
def d122_6 : Option (List (List Nat)) := none
def l122_6 : List Nat := []
theorem cd122_6 : dOk d122_6 g122_6 l122_6 = true := by kernel_rfl
def g122_7 : List G := [⟨(some 23), .mv (.t 0), none⟩,
  ⟨(some 24), .mv (.t 2), none⟩,
  ⟨(some 25), .app 43 7 56 (.agg [.int .i64 (0), .agg [.int .i64 (0), .int .i64 (0), .int .i64 (0), .int .i64 (0), .int .i64 (0), .int .i64 (0)]]) (.t 23) (.t 24), none⟩,
  ⟨(some 6), .mv (.t 25), none⟩]
def d122_7 : Option (List (List Nat)) := none
def l122_7 : List Nat := []
theorem cd122_7 : dOk d122_7 g122_7 l122_7 = true := by kernel_rfl
def g122_8 : List G := [⟨(some 26), .mv (.t 8), none⟩,
  ⟨(some 27), .mv (.t 7), none⟩,
  ⟨(some 28), .bin .add (.t 26) (.t 27), none⟩,
  ⟨(some 29), .mv (.t 0), none⟩,
  ⟨(some 30), .cap (.t 29), none⟩,
  ⟨(some 31), .bin .gtr (.t 28) (.t 30), none⟩]
def d122_8 : Option (List (List Nat)) := none
def l122_8 : List Nat := []
theorem cd122_8 : dOk d122_8 g122_8 l122_8 = true := by kernel_rfl
def g122_9 : List G := [⟨(some 32), .mv (.t 0), none⟩,
  ⟨(some 33), .mv (.t 1), none⟩,
  ⟨(some 34), .sl 7 (.t 32) none (some (.t 33)) none, none⟩,
  ⟨(some 35), .mv (.t 8), none⟩,
  ⟨(some 36), .mv (.t 7), none⟩,
  ⟨(some 37), .bin .add (.t 35) (.t 36), none⟩,
  ⟨(some 38), .mv (.t 1), none⟩,
  ⟨(some 39), .bin .sub (.t 37) (.t 38), none⟩,
  ⟨(some 40), .apz 43 7 56 (.agg [.int .i64 (0), .agg [.int .i64 (0), .int .i64 (0), .int .i64 (0), .int .i64 (0), .int .i64 (0), .int .i64 (0)]]) (.t 34) (.t 39), none⟩,
  ⟨(some 9), .mv (.t 40), none⟩]
def d122_9 : Option (List (List Nat)) := none
def l122_9 : List Nat := []
theorem cd122_9 : dOk d122_9 g122_9 l122_9 = true := by kernel_rfl
def g122_10 : List G := [⟨(some 41), .mv (.t 9), none⟩,
  ⟨(some 42), .mv (.t 1), none⟩,
  ⟨(some 43), .sl 7 (.t 41) (some (.t 42)) none none, none⟩,
  ⟨(some 44), .mv (.t 2), none⟩,
  ⟨(some 45), .cpy 7 (.t 43) (.t 44), none⟩]
def d122_10 : Option (List (List Nat)) := none
def l122_10 : List Nat := []
theorem cd122_10 : dOk d122_10 g122_10 l122_10 = true := by kernel_rfl
def g122_11 : List G := [⟨(some 46), .mv (.t 9), none⟩,
  ⟨(some 47), .mv (.t 1), none⟩,
  ⟨(some 48), .mv (.t 7), none⟩,
  ⟨(some 49), .bin .add (.t 47) (.t 48), none⟩,
  ⟨(some 50), .sl 7 (.t 46) (some (.t 49)) none none, none⟩,
  ⟨(some 51), .mv (.t 0), none⟩,
  ⟨(some 52), .mv (.t 1), none⟩,
  ⟨(some 53), .sl 7 (.t 51) (some (.t 52)) none none, none⟩,
  ⟨(some 54), .cpy 7 (.t 50) (.t 53), none⟩]
def d122_11 : Option (List (List Nat)) := (some [[], [], [], [1, 2], [0, 3], [], [], [5, 6], [4, 7]])
def l122_11 : List Nat := [0, 0, 0, 6, 15, 0, 0, 96, 255]
theorem cd122_11 : dOk d122_11 g122_11 l122_11 = true := by kernel_rfl
def g122_12 : List G := [⟨(some 55), .mv (.t 9), none⟩,
  ⟨(some 6), .mv (.t 55), none⟩]
def d122_12 : Option (List (List Nat)) := none
def l122_12 : List Nat := []
theorem cd122_12 : dOk d122_12 g122_12 l122_12 = true := by kernel_rfl
def g122_13 : List G := [⟨(some 56), .mv (.t 0), none⟩,
  ⟨(some 57), .mv (.t 8), none⟩,
  ⟨(some 58), .mv (.t 7), none⟩,
  ⟨(some 59), .bin .add (.t 57) (.t 58), none⟩,
  ⟨(some 60), .sl 7 (.t 56) none (some (.t 59)) none, none⟩,
  ⟨(some 0), .mv (.t 60), none⟩]
def d122_13 : Option (List (List Nat)) := none
def l122_13 : List Nat := []
theorem cd122_13 : dOk d122_13 g122_13 l122_13 = true := by kernel_rfl
def g122_14 : List G := [⟨(some 61), .mv (.t 2), none⟩,
  ⟨(some 62), .mv (.t 0), none⟩,
  ⟨(some 63), .mv (.t 1), none⟩,
  ⟨(some 64), .mv (.t 7), none⟩,
  ⟨(some 65), .bin .add (.t 63) (.t 64), none⟩,
  ⟨(some 66), .sl 7 (.t 62) (some (.t 65)) none none, none⟩,
  ⟨(some 67), .xcall 124 [(.t 61), (.t 66)], none⟩,
  ⟨(some 68), .un .not (.t 67), none⟩]
def d122_14 : Option (List (List Nat)) := none
def l122_14 : List Nat := []
theorem cd122_14 : dOk d122_14 g122_14 l122_14 = true := by kernel_rfl
def g122_15 : List G := [⟨(some 69), .mv (.t 0), none⟩,
  ⟨(some 70), .mv (.t 1), none⟩,
  ⟨(some 71), .mv (.t 7), none⟩,
  ⟨(some 72), .bin .add (.t 70) (.t 71), none⟩,
  ⟨(some 73), .sl 7 (.t 69) (some (.t 72)) none none, none⟩,
  ⟨(some 74), .mv (.t 0), none⟩,
  ⟨(some 75), .mv (.t 1), none⟩,
  ⟨(some 76), .sl 7 (.t 74) (some (.t 75)) none none, none⟩,
  ⟨(some 77), .cpy 7 (.t 73) (.t 76), none⟩]
def d122_15 : Option (List (List Nat)) := (some [[], [], [], [1, 2], [0, 3], [], [], [5, 6], [4, 7]])
def l122_15 : List Nat := [0, 0, 0, 6, 15, 0, 0, 96, 255]
theorem cd122_15 : dOk d122_15 g122_15 l122_15 = true := by kernel_rfl
def g122_16 : List G := [⟨(some 78), .mv (.t 0), none⟩,
  ⟨(some 79), .mv (.t 1), none⟩,
  ⟨(some 80), .sl 7 (.t 78) (some (.t 79)) none none, none⟩,
  ⟨(some 81), .mv (.t 2), none⟩,
  ⟨(some 82), .cpy 7 (.t 80) (.t 81), none⟩]
def d122_16 : Option (List (List Nat)) := none
def l122_16 : List Nat := []
theorem cd122_16 : dOk d122_16 g122_16 l122_16 = true := by kernel_rfl
def g122_17 : List G := [⟨(some 83), .mv (.t 0), none⟩,
  ⟨(some 6), .mv (.t 83), none⟩]
def d122_17 : Option (List (List Nat)) := none
def l122_17 : List Nat := []
theorem cd122_17 : dOk d122_17 g122_17 l122_17 = true := by kernel_rfl
def g122_18 : List G := [⟨(some 84), .mv (.t 0), none⟩,
  ⟨(some 85), .mv (.t 8), none⟩,
  ⟨(some 86), .sl 7 (.t 84) (some (.t 85)) none none, none⟩,
  ⟨(some 87), .mv (.t 2), none⟩,
  ⟨(some 88), .cpy 7 (.t 86) (.t 87), none⟩]
def d122_18 : Option (List (List Nat)) := none
def g122_19 : List G := [⟨(some 89), .mv (.t 0), none⟩,
  ⟨(some 90), .mv (.t 1), none⟩,
  ⟨(some 91), .sl 7 (.t 89) (some (.t 90)) none none, none⟩,
  ⟨(some 92), .mv (.t 7), none⟩,
  ⟨(some 93), .call 125 [(.t 91), (.t 92)], none⟩]
def d122_19 : Option (List (List Nat)) := none
def g122_20 : List G := [⟨(some 94), .mv (.t 0), none⟩,
  ⟨(some 6), .mv (.t 94), none⟩]
def d122_20 : Option (List (List Nat)) := none
def c122 : AC := (.seq (.reg d122_0 g122_0) (.seq (.reg d122_1 g122_1) (.seq (.reg d122_2 g122_2) (.seq (.seq (.reg d122_3 g122_3) (.cond (.t 16) (.seq (.reg d122_4 g122_4) .ret) .skip)) (.seq (.reg d122_5 g122_5) (.seq (.seq (.reg d122_6 g122_6) (.cond (.t 22) (.seq (.reg d122_7 g122_7) .ret) .skip)) (.seq (.seq (.reg d122_8 g122_8) (.cond (.t 31) (.seq (.reg d122_9 g122_9) (.seq (.reg d122_10 g122_10) (.seq (.reg d122_11 g122_11) (.seq (.reg d122_12 g122_12) .ret)))) .skip)) (.seq (.reg d122_13 g122_13) (.seq (.seq (.reg d122_14 g122_14) (.cond (.t 68) (.seq (.reg d122_15 g122_15) (.seq (.reg d122_16 g122_16) (.seq (.reg d122_17 g122_17) .ret))) .skip)) (.seq (.reg d122_18 g122_18) (.seq (.reg d122_19 g122_19) (.seq (.reg d122_20 g122_20) .ret))))))))))))
def r122 : List RV := [.tmp 6]
theorem cc122 : (Try.f122.body.bind (cCode Try.prog Try.f122.ntmps)) = some c122 := by kernel_rfl
theorem cr122 : cRes Try.prog Try.f122.results.toList = some r122 := by kernel_rfl
theorem ca122 : callable Try.prog 122 = true := by kernel_rfl
def g123_0 : List G := [⟨(some 2), .mv (.c (.bool false)), none⟩]
def d123_0 : Option (List (List Nat)) := none
def l123_0 : List Nat := []
theorem cd123_0 : dOk d123_0 g123_0 l123_0 = true := by kernel_rfl
def g123_1 : List G := [⟨(some 3), .mv (.t 0), none⟩,
  ⟨(some 4), .mv (.t 0), none⟩,
  ⟨(some 5), .bin .neq (.t 3) (.t 4), none⟩,
  ⟨(some 2), .mv (.t 5), none⟩]
def d123_1 : Option (List (List Nat)) := none
def l123_1 : List Nat := []
theorem cd123_1 : dOk d123_1 g123_1 l123_1 = true := by kernel_rfl
def c123 : AC := (.seq (.reg d123_0 g123_0) (.seq (.reg d123_1 g123_1) .ret))
def r123 : List RV := [.tmp 2]
theorem cc123 : (Try.f123.body.bind (cCode Try.prog Try.f123.ntmps)) = some c123 := by kernel_rfl
theorem cr123 : cRes Try.prog Try.f123.results.toList = some r123 := by kernel_rfl
theorem ca123 : callable Try.prog 123 = true := by kernel_rfl
end Go.Proofs.Ytkjkbpgdpnapfaa

/-
  THE SEAT'S FUNCTIONS, READ (part 1): the code of each as the abstract layer reads it, by program; each tie is a closed fact.
-/
namespace Go.Proofs.Ytkjkbpgdpnapfaa
open Go Go.Abs
def g35_0 : List G := [⟨(some 2), .alloc (.agg [.int .i64 (0), .int .i64 (0), .int .i64 (0), .int .i64 (0), .int .i64 (0), .int .i64 (0)]), none⟩]
def d35_0 : Option (List (List Nat)) := none
def l35_0 : List Nat := []
theorem cd35_0 : dOk d35_0 g35_0 l35_0 = true := by kernel_rfl
def g35_1 : List G := [⟨(some 3), .alloc (.agg [.int .i64 (0), .int .i64 (0), .int .i64 (0), .int .i64 (0), .int .i64 (0), .int .i64 (0)]), none⟩]
def d35_1 : Option (List (List Nat)) := none
def l35_1 : List Nat := []
theorem cd35_1 : dOk d35_1 g35_1 l35_1 = true := by kernel_rfl
def g35_2 : List G := [⟨(some 4), .mv (.c (.int .i64 (5))), none⟩]
def d35_2 : Option (List (List Nat)) := none
def l35_2 : List Nat := []
theorem cd35_2 : dOk d35_2 g35_2 l35_2 = true := by kernel_rfl
def g35_3 : List G := [⟨(some 5), .mv (.t 4), none⟩,
  ⟨(some 6), .bin .geq (.t 5) (.c (.int .i64 (0))), none⟩]
def d35_3 : Option (List (List Nat)) := none
def l35_3 : List Nat := []
theorem cd35_3 : dOk d35_3 g35_3 l35_3 = true := by kernel_rfl
def g35_4 : List G := [⟨(some 9), .mv (.t 4), none⟩,
  ⟨(some 10), .mv (.t 0), none⟩,
  ⟨(some 11), .bin .rem (.t 10) (.c (.int .i64 (5))), none⟩,
  ⟨(some 12), .ia 6 1 (.t 3) (.t 9), none⟩,
  ⟨none, .st none (.t 12) (.t 11), none⟩]
def d35_4 : Option (List (List Nat)) := none
def l35_4 : List Nat := []
theorem cd35_4 : dOk d35_4 g35_4 l35_4 = true := by kernel_rfl
def g35_5 : List G := [⟨(some 13), .mv (.t 0), none⟩,
  ⟨(some 14), .bin .quo (.t 13) (.c (.int .i64 (5))), none⟩,
  ⟨(some 0), .mv (.t 14), none⟩]
def d35_5 : Option (List (List Nat)) := none
def l35_5 : List Nat := []
theorem cd35_5 : dOk d35_5 g35_5 l35_5 = true := by kernel_rfl
def g35_6 : List G := [⟨(some 7), .mv (.t 4), none⟩,
  ⟨(some 8), .bin .sub (.t 7) (.c (.int .i64 (1))), none⟩,
  ⟨(some 4), .mv (.t 8), none⟩]
def d35_6 : Option (List (List Nat)) := none
def l35_6 : List Nat := []
theorem cd35_6 : dOk d35_6 g35_6 l35_6 = true := by kernel_rfl
def g35_7 : List G := [⟨(some 15), .ld (some 6) (.t 3), none⟩,
  ⟨none, .st (some 6) (.t 2) (.t 15), none⟩]
def d35_7 : Option (List (List Nat)) := none
def l35_7 : List Nat := []
theorem cd35_7 : dOk d35_7 g35_7 l35_7 = true := by kernel_rfl
def c35 : AC := (.seq (.reg d35_0 g35_0) (.seq (.reg d35_1 g35_1) (.seq (.seq (.reg d35_2 g35_2) (.block 0 (.loop (.seq (.seq (.reg d35_3 g35_3) (.cond (.t 6) .skip (.exit 0))) (.seq (.block 1 (.seq (.reg d35_4 g35_4) (.reg d35_5 g35_5))) (.reg d35_6 g35_6)))))) (.seq (.reg d35_7 g35_7) .ret))))
def r35 : List RV := [.cell 2 (some 6)]
theorem cc35 : (Try.f35.body.bind (cCode Try.prog Try.f35.ntmps)) = some c35 := by kernel_rfl
theorem cr35 : cRes Try.prog Try.f35.results.toList = some r35 := by kernel_rfl
theorem ca35 : callable Try.prog 35 = true := by kernel_rfl
def g36_0 : List G := [⟨(some 3), .box (.t 0), none⟩,
  ⟨(some 4), .box (.t 1), none⟩,
  ⟨(some 5), .box (.t 2), none⟩,
  ⟨(some 6), .mv (.c (.int .i64 (0))), none⟩,
  ⟨(some 7), .mv (.c (.int .i64 (0))), none⟩]
def d36_0 : Option (List (List Nat)) := none
def l36_0 : List Nat := []
theorem cd36_0 : dOk d36_0 g36_0 l36_0 = true := by kernel_rfl
def g36_1 : List G := [⟨(some 9), .ld (some 5) (.t 3), none⟩,
  ⟨(some 10), .call 43 [(.t 9)], none⟩,
  ⟨(some 11), .ld (some 6) (.t 4), none⟩,
  ⟨(some 12), .call 41 [(.t 11)], none⟩,
  ⟨(some 13), .ld (some 6) (.t 5), none⟩,
  ⟨(some 14), .call 41 [(.t 13)], none⟩,
  ⟨(some 15), .bs 1 [(.t 10), (.t 12), (.t 14)], none⟩,
  ⟨(some 16), .call 64 [(.t 15)], none⟩,
  ⟨(some 8), .mv (.t 16), none⟩]
def d36_1 : Option (List (List Nat)) := (some [[], [0], [], [2, 1], [], [4, 3], [1, 3, 5], [6, 5], [7, 7, 0, 1, 2, 3, 4, 5, 6, 7]])
def l36_1 : List Nat := [0, 1, 0, 7, 0, 31, 63, 127, 255]
theorem cd36_1 : dOk d36_1 g36_1 l36_1 = true := by kernel_rfl
def g36_2 : List G := [⟨(some 17), .mv (.t 8), none⟩,
  ⟨(some 18), .bin .neq (.t 17) (.c (.int .i64 (0))), none⟩]
def d36_2 : Option (List (List Nat)) := none
def l36_2 : List Nat := []
theorem cd36_2 : dOk d36_2 g36_2 l36_2 = true := by kernel_rfl
def g36_3 : List G := [⟨(some 19), .mv (.t 8), none⟩,
  ⟨(some 6), .mv (.c (.int .i64 (0))), none⟩,
  ⟨(some 7), .mv (.t 19), none⟩]
def d36_3 : Option (List (List Nat)) := none
def l36_3 : List Nat := []
theorem cd36_3 : dOk d36_3 g36_3 l36_3 = true := by kernel_rfl
def g36_4 : List G := [⟨(some 20), .ld (some 5) (.t 3), none⟩,
  ⟨(some 21), .ld (some 6) (.t 4), none⟩,
  ⟨(some 22), .ld (some 6) (.t 5), none⟩,
  ⟨(some 23), .call 87 [(.t 20), (.t 21), (.t 22)], none⟩,
  ⟨(some 6), .mv (.t 23), none⟩,
  ⟨(some 7), .mv (.c (.int .i64 (0))), none⟩]
def d36_4 : Option (List (List Nat)) := none
def l36_4 : List Nat := []
theorem cd36_4 : dOk d36_4 g36_4 l36_4 = true := by kernel_rfl
def c36 : AC := (.seq (.reg d36_0 g36_0) (.seq (.seq (.reg d36_1 g36_1) (.seq (.reg d36_2 g36_2) (.cond (.t 18) (.seq (.reg d36_3 g36_3) .ret) .skip))) (.seq (.reg d36_4 g36_4) .ret)))
def r36 : List RV := [.tmp 6, .tmp 7]
theorem cc36 : (Try.f36.body.bind (cCode Try.prog Try.f36.ntmps)) = some c36 := by kernel_rfl
theorem cr36 : cRes Try.prog Try.f36.results.toList = some r36 := by kernel_rfl
theorem ca36 : callable Try.prog 36 = true := by kernel_rfl
def g41_0 : List G := [⟨(some 1), .box (.t 0), none⟩,
  ⟨(some 2), .mv (.c (.int .i64 (0))), none⟩]
def d41_0 : Option (List (List Nat)) := none
def l41_0 : List Nat := []
theorem cd41_0 : dOk d41_0 g41_0 l41_0 = true := by kernel_rfl
def g41_1 : List G := [⟨(some 3), .ld (some 6) (.t 1), none⟩,
  ⟨(some 4), .call 93 [(.t 3)], none⟩,
  ⟨(some 5), .un .not (.t 4), none⟩]
def d41_1 : Option (List (List Nat)) := none
def l41_1 : List Nat := []
theorem cd41_1 : dOk d41_1 g41_1 l41_1 = true := by kernel_rfl
def g41_2 : List G := [⟨(some 2), .mv (.c (.int .i64 (10))), none⟩]
def d41_2 : Option (List (List Nat)) := none
def l41_2 : List Nat := []
theorem cd41_2 : dOk d41_2 g41_2 l41_2 = true := by kernel_rfl
def g41_3 : List G := [⟨(some 2), .mv (.c (.int .i64 (0))), none⟩]
def d41_3 : Option (List (List Nat)) := none
def l41_3 : List Nat := []
theorem cd41_3 : dOk d41_3 g41_3 l41_3 = true := by kernel_rfl
def c41 : AC := (.seq (.reg d41_0 g41_0) (.seq (.seq (.reg d41_1 g41_1) (.cond (.t 5) (.seq (.reg d41_2 g41_2) .ret) .skip)) (.seq (.reg d41_3 g41_3) .ret)))
def r41 : List RV := [.tmp 2]
theorem cc41 : (Try.f41.body.bind (cCode Try.prog Try.f41.ntmps)) = some c41 := by kernel_rfl
theorem cr41 : cRes Try.prog Try.f41.results.toList = some r41 := by kernel_rfl
theorem ca41 : callable Try.prog 41 = true := by kernel_rfl
def g42_0 : List G := [⟨(some 1), .box (.t 0), none⟩,
  ⟨(some 2), .mv (.c (.int .i64 (0))), none⟩]
def d42_0 : Option (List (List Nat)) := none
def l42_0 : List Nat := []
theorem cd42_0 : dOk d42_0 g42_0 l42_0 = true := by kernel_rfl
def g42_1 : List G := [⟨(some 3), .mv (.c (.int .i64 (0))), none⟩]
def d42_1 : Option (List (List Nat)) := none
def l42_1 : List Nat := []
theorem cd42_1 : dOk d42_1 g42_1 l42_1 = true := by kernel_rfl
def g42_2 : List G := [⟨(some 4), .mv (.t 3), none⟩,
  ⟨(some 5), .bin .lss (.t 4) (.c (.int .i64 (6))), none⟩]
def d42_2 : Option (List (List Nat)) := none
def l42_2 : List Nat := []
theorem cd42_2 : dOk d42_2 g42_2 l42_2 = true := by kernel_rfl
def g42_3 : List G := [⟨(some 8), .mv (.t 3), none⟩,
  ⟨(some 9), .ia 6 1 (.t 1) (.t 8), none⟩,
  ⟨(some 10), .ld none (.t 9), none⟩,
  ⟨(some 11), .call 94 [(.t 10), (.c (.int .i64 (0))), (.c (.int .i64 (4)))], none⟩,
  ⟨(some 12), .un .not (.t 11), none⟩]
def d42_3 : Option (List (List Nat)) := none
def l42_3 : List Nat := []
theorem cd42_3 : dOk d42_3 g42_3 l42_3 = true := by kernel_rfl
def g42_4 : List G := [⟨(some 2), .mv (.c (.int .i64 (10))), none⟩]
def d42_4 : Option (List (List Nat)) := none
def l42_4 : List Nat := []
theorem cd42_4 : dOk d42_4 g42_4 l42_4 = true := by kernel_rfl
def g42_5 : List G := [⟨(some 6), .mv (.t 3), none⟩,
  ⟨(some 7), .bin .add (.t 6) (.c (.int .i64 (1))), none⟩,
  ⟨(some 3), .mv (.t 7), none⟩]
def d42_5 : Option (List (List Nat)) := none
def l42_5 : List Nat := []
theorem cd42_5 : dOk d42_5 g42_5 l42_5 = true := by kernel_rfl
def g42_6 : List G := [⟨(some 2), .mv (.c (.int .i64 (0))), none⟩]
def d42_6 : Option (List (List Nat)) := none
def l42_6 : List Nat := []
theorem cd42_6 : dOk d42_6 g42_6 l42_6 = true := by kernel_rfl
def c42 : AC := (.seq (.reg d42_0 g42_0) (.seq (.seq (.reg d42_1 g42_1) (.block 0 (.loop (.seq (.seq (.reg d42_2 g42_2) (.cond (.t 5) .skip (.exit 0))) (.seq (.block 1 (.seq (.reg d42_3 g42_3) (.cond (.t 12) (.seq (.reg d42_4 g42_4) .ret) .skip))) (.reg d42_5 g42_5)))))) (.seq (.reg d42_6 g42_6) .ret)))
def r42 : List RV := [.tmp 2]
theorem cc42 : (Try.f42.body.bind (cCode Try.prog Try.f42.ntmps)) = some c42 := by kernel_rfl
theorem cr42 : cRes Try.prog Try.f42.results.toList = some r42 := by kernel_rfl
theorem ca42 : callable Try.prog 42 = true := by kernel_rfl
def g43_0 : List G := [⟨(some 1), .box (.t 0), none⟩,
  ⟨(some 2), .mv (.c (.int .i64 (0))), none⟩]
def d43_0 : Option (List (List Nat)) := none
def l43_0 : List Nat := []
theorem cd43_0 : dOk d43_0 g43_0 l43_0 = true := by kernel_rfl
def g43_1 : List G := [⟨(some 3), .ld (some 5) (.t 1), none⟩,
  ⟨(some 4), .call 95 [(.t 3)], none⟩,
  ⟨(some 5), .un .not (.t 4), none⟩]
def d43_1 : Option (List (List Nat)) := none
def l43_1 : List Nat := []
theorem cd43_1 : dOk d43_1 g43_1 l43_1 = true := by kernel_rfl
def g43_2 : List G := [⟨(some 2), .mv (.c (.int .i64 (11))), none⟩]
def d43_2 : Option (List (List Nat)) := none
def l43_2 : List Nat := []
theorem cd43_2 : dOk d43_2 g43_2 l43_2 = true := by kernel_rfl
def g43_3 : List G := [⟨(some 2), .mv (.c (.int .i64 (0))), none⟩]
def d43_3 : Option (List (List Nat)) := none
def l43_3 : List Nat := []
theorem cd43_3 : dOk d43_3 g43_3 l43_3 = true := by kernel_rfl
def c43 : AC := (.seq (.reg d43_0 g43_0) (.seq (.seq (.reg d43_1 g43_1) (.cond (.t 5) (.seq (.reg d43_2 g43_2) .ret) .skip)) (.seq (.reg d43_3 g43_3) .ret)))
def r43 : List RV := [.tmp 2]
theorem cc43 : (Try.f43.body.bind (cCode Try.prog Try.f43.ntmps)) = some c43 := by kernel_rfl
theorem cr43 : cRes Try.prog Try.f43.results.toList = some r43 := by kernel_rfl
theorem ca43 : callable Try.prog 43 = true := by kernel_rfl
def g44_0 : List G := [⟨(some 1), .box (.t 0), none⟩,
  ⟨(some 2), .mv (.c (.int .i64 (0))), none⟩]
def d44_0 : Option (List (List Nat)) := none
def l44_0 : List Nat := []
theorem cd44_0 : dOk d44_0 g44_0 l44_0 = true := by kernel_rfl
def g44_1 : List G := [⟨(some 3), .mv (.c (.int .i64 (0))), none⟩]
def d44_1 : Option (List (List Nat)) := none
def l44_1 : List Nat := []
theorem cd44_1 : dOk d44_1 g44_1 l44_1 = true := by kernel_rfl
def g44_2 : List G := [⟨(some 4), .mv (.t 3), none⟩,
  ⟨(some 5), .bin .lss (.t 4) (.c (.int .i64 (5))), none⟩]
def d44_2 : Option (List (List Nat)) := none
def l44_2 : List Nat := []
theorem cd44_2 : dOk d44_2 g44_2 l44_2 = true := by kernel_rfl
def g44_3 : List G := [⟨(some 8), .mv (.t 3), none⟩,
  ⟨(some 9), .ia 5 1 (.t 1) (.t 8), none⟩,
  ⟨(some 10), .ld none (.t 9), none⟩,
  ⟨(some 11), .call 94 [(.t 10), (.c (.int .i64 (0))), (.c (.int .i64 (31)))], none⟩,
  ⟨(some 12), .un .not (.t 11), none⟩,
  ⟨(some 13), .mv (.t 12), none⟩,
  ⟨(some 14), .mv (.t 3), some (13, false)⟩,
  ⟨(some 15), .ia 5 1 (.t 1) (.t 14), some (13, false)⟩,
  ⟨(some 16), .ld none (.t 15), some (13, false)⟩,
  ⟨(some 17), .mv (.t 3), some (13, false)⟩,
  ⟨(some 18), .bin .shl (.c (.int .i64 (1))) (.t 17), some (13, false)⟩,
  ⟨(some 19), .bin .and (.t 16) (.t 18), some (13, false)⟩,
  ⟨(some 20), .bin .eql (.t 19) (.c (.int .i64 (0))), some (13, false)⟩,
  ⟨(some 21), .pick (.t 13) (.c (.bool true)) (.t 20), none⟩]
def d44_3 : Option (List (List Nat)) := (some [[], [0], [1], [2], [3], [4, 3], [5], [6, 5], [7, 5], [5], [9, 5], [8, 10, 5], [11, 5], [5, 12]])
def l44_3 : List Nat := [0, 1, 3, 7, 15, 31, 63, 127, 255, 63, 575, 2047, 4095, 8191]
theorem cd44_3 : dOk d44_3 g44_3 l44_3 = true := by kernel_rfl
def g44_4 : List G := [⟨(some 2), .mv (.c (.int .i64 (11))), none⟩]
def d44_4 : Option (List (List Nat)) := none
def l44_4 : List Nat := []
theorem cd44_4 : dOk d44_4 g44_4 l44_4 = true := by kernel_rfl
def g44_5 : List G := [⟨(some 6), .mv (.t 3), none⟩,
  ⟨(some 7), .bin .add (.t 6) (.c (.int .i64 (1))), none⟩,
  ⟨(some 3), .mv (.t 7), none⟩]
def d44_5 : Option (List (List Nat)) := none
def l44_5 : List Nat := []
theorem cd44_5 : dOk d44_5 g44_5 l44_5 = true := by kernel_rfl
def g44_6 : List G := [⟨(some 2), .mv (.c (.int .i64 (0))), none⟩]
def d44_6 : Option (List (List Nat)) := none
def l44_6 : List Nat := []
theorem cd44_6 : dOk d44_6 g44_6 l44_6 = true := by kernel_rfl
def c44 : AC := (.seq (.reg d44_0 g44_0) (.seq (.seq (.reg d44_1 g44_1) (.block 0 (.loop (.seq (.seq (.reg d44_2 g44_2) (.cond (.t 5) .skip (.exit 0))) (.seq (.block 1 (.seq (.reg d44_3 g44_3) (.cond (.t 21) (.seq (.reg d44_4 g44_4) .ret) .skip))) (.reg d44_5 g44_5)))))) (.seq (.reg d44_6 g44_6) .ret)))
def r44 : List RV := [.tmp 2]
theorem cc44 : (Try.f44.body.bind (cCode Try.prog Try.f44.ntmps)) = some c44 := by kernel_rfl
theorem cr44 : cRes Try.prog Try.f44.results.toList = some r44 := by kernel_rfl
theorem ca44 : callable Try.prog 44 = true := by kernel_rfl
def g45_0 : List G := [⟨(some 1), .box (.t 0), none⟩,
  ⟨(some 2), .mv (.c (.int .i64 (0))), none⟩]
def d45_0 : Option (List (List Nat)) := none
def l45_0 : List Nat := []
theorem cd45_0 : dOk d45_0 g45_0 l45_0 = true := by kernel_rfl
def g45_1 : List G := [⟨(some 3), .ld (some 6) (.t 1), none⟩,
  ⟨(some 4), .call 96 [(.t 3)], none⟩,
  ⟨(some 5), .un .not (.t 4), none⟩]
def d45_1 : Option (List (List Nat)) := none
def l45_1 : List Nat := []
theorem cd45_1 : dOk d45_1 g45_1 l45_1 = true := by kernel_rfl
def g45_2 : List G := [⟨(some 2), .mv (.c (.int .i64 (12))), none⟩]
def d45_2 : Option (List (List Nat)) := none
def l45_2 : List Nat := []
theorem cd45_2 : dOk d45_2 g45_2 l45_2 = true := by kernel_rfl
def g45_3 : List G := [⟨(some 2), .mv (.c (.int .i64 (0))), none⟩]
def d45_3 : Option (List (List Nat)) := none
def l45_3 : List Nat := []
theorem cd45_3 : dOk d45_3 g45_3 l45_3 = true := by kernel_rfl
def c45 : AC := (.seq (.reg d45_0 g45_0) (.seq (.seq (.reg d45_1 g45_1) (.cond (.t 5) (.seq (.reg d45_2 g45_2) .ret) .skip)) (.seq (.reg d45_3 g45_3) .ret)))
def r45 : List RV := [.tmp 2]
theorem cc45 : (Try.f45.body.bind (cCode Try.prog Try.f45.ntmps)) = some c45 := by kernel_rfl
theorem cr45 : cRes Try.prog Try.f45.results.toList = some r45 := by kernel_rfl
theorem ca45 : callable Try.prog 45 = true := by kernel_rfl
def g47_0 : List G := [⟨(some 1), .box (.t 0), none⟩,
  ⟨(some 2), .mv (.c (.int .i64 (0))), none⟩]
def d47_0 : Option (List (List Nat)) := none
def l47_0 : List Nat := []
theorem cd47_0 : dOk d47_0 g47_0 l47_0 = true := by kernel_rfl
def g47_1 : List G := [⟨(some 5), .fa 0 0 (.t 1), none⟩,
  ⟨(some 6), .ld (some 5) (.t 5), none⟩,
  ⟨(some 7), .call 95 [(.t 6)], none⟩,
  ⟨(some 8), .un .not (.t 7), none⟩,
  ⟨(some 9), .mv (.t 8), none⟩,
  ⟨(some 10), .fa 1 5 (.t 1), some (9, false)⟩,
  ⟨(some 11), .ld none (.t 10), some (9, false)⟩,
  ⟨(some 12), .call 89 [(.t 11), (.c (.int .i64 (0))), (.c (.int .i64 (2)))], some (9, false)⟩,
  ⟨(some 13), .un .not (.t 12), some (9, false)⟩,
  ⟨(some 14), .pick (.t 9) (.c (.bool true)) (.t 13), none⟩,
  ⟨(some 15), .mv (.t 14), none⟩,
  ⟨(some 16), .fa 2 6 (.t 1), some (15, false)⟩,
  ⟨(some 17), .ld none (.t 16), some (15, false)⟩,
  ⟨(some 18), .len (.t 17), some (15, false)⟩,
  ⟨(some 19), .bin .gtr (.t 18) (.c (.int .i64 (40))), some (15, false)⟩,
  ⟨(some 20), .pick (.t 15) (.c (.bool true)) (.t 19), none⟩]
def d47_1 : Option (List (List Nat)) := none
def l47_1 : List Nat := []
theorem cd47_1 : dOk d47_1 g47_1 l47_1 = true := by kernel_rfl
def g47_2 : List G := [⟨(some 2), .mv (.c (.int .i64 (13))), none⟩]
def d47_2 : Option (List (List Nat)) := none
def l47_2 : List Nat := []
theorem cd47_2 : dOk d47_2 g47_2 l47_2 = true := by kernel_rfl
def g47_3 : List G := [⟨(some 21), .fa 2 6 (.t 1), none⟩,
  ⟨(some 22), .ld none (.t 21), none⟩,
  ⟨(some 23), .len (.t 22), none⟩,
  ⟨(some 24), .mv (.c (.int .i64 (0))), none⟩]
def d47_3 : Option (List (List Nat)) := none
def l47_3 : List Nat := []
theorem cd47_3 : dOk d47_3 g47_3 l47_3 = true := by kernel_rfl
def g47_4 : List G := [⟨(some 25), .bin .lss (.t 24) (.t 23), none⟩]
def d47_4 : Option (List (List Nat)) := none
def l47_4 : List Nat := []
theorem cd47_4 : dOk d47_4 g47_4 l47_4 = true := by kernel_rfl
def g47_5 : List G := [⟨(some 26), .mv (.t 24), none⟩,
  ⟨(some 27), .is 7 (.t 22) (.t 24), none⟩,
  ⟨(some 28), .ld (some 7) (.t 27), none⟩,
  ⟨(some 4), .alloc (.agg [.int .i64 (0), .agg [.int .i64 (0), .int .i64 (0), .int .i64 (0), .int .i64 (0), .int .i64 (0), .int .i64 (0)]]), none⟩,
  ⟨(some 3), .mv (.t 26), none⟩,
  ⟨none, .st (some 7) (.t 4) (.t 28), none⟩]
def d47_5 : Option (List (List Nat)) := none
def l47_5 : List Nat := []
theorem cd47_5 : dOk d47_5 g47_5 l47_5 = true := by kernel_rfl
def g47_6 : List G := [⟨(some 29), .fa 0 0 (.t 4), none⟩,
  ⟨(some 30), .ld none (.t 29), none⟩,
  ⟨(some 31), .call 97 [(.t 30)], none⟩,
  ⟨(some 32), .un .not (.t 31), none⟩,
  ⟨(some 33), .mv (.t 32), none⟩,
  ⟨(some 34), .fa 1 1 (.t 4), some (33, false)⟩,
  ⟨(some 35), .ld (some 6) (.t 34), some (33, false)⟩,
  ⟨(some 36), .call 93 [(.t 35)], some (33, false)⟩,
  ⟨(some 37), .un .not (.t 36), some (33, false)⟩,
  ⟨(some 38), .pick (.t 33) (.c (.bool true)) (.t 37), none⟩,
  ⟨(some 39), .mv (.t 38), none⟩,
  ⟨(some 40), .mv (.t 3), some (39, false)⟩,
  ⟨(some 41), .bin .gtr (.t 40) (.c (.int .i64 (0))), some (39, false)⟩,
  ⟨(some 42), .mv (.t 41), some (39, false)⟩,
  ⟨(some 43), .fa 2 6 (.t 1), some (42, true)⟩,
  ⟨(some 44), .ld none (.t 43), some (42, true)⟩,
  ⟨(some 45), .mv (.t 3), some (42, true)⟩,
  ⟨(some 46), .bin .sub (.t 45) (.c (.int .i64 (1))), some (42, true)⟩,
  ⟨(some 47), .is 7 (.t 44) (.t 46), some (42, true)⟩,
  ⟨(some 48), .fa 0 0 (.t 47), some (42, true)⟩,
  ⟨(some 49), .ld none (.t 48), some (42, true)⟩,
  ⟨(some 50), .fa 0 0 (.t 4), some (42, true)⟩,
  ⟨(some 51), .ld none (.t 50), some (42, true)⟩,
  ⟨(some 52), .bin .geq (.t 49) (.t 51), some (42, true)⟩,
  ⟨(some 53), .pick (.t 42) (.t 52) (.c (.bool false)), some (39, false)⟩,
  ⟨(some 54), .pick (.t 39) (.c (.bool true)) (.t 53), none⟩,
  ⟨(some 55), .mv (.t 54), none⟩,
  ⟨(some 56), .ld (some 7) (.t 1), some (55, false)⟩,
  ⟨(some 57), .fa 2 6 (.t 1), some (55, false)⟩,
  ⟨(some 58), .ld none (.t 57), some (55, false)⟩,
  ⟨(some 59), .mv (.t 3), some (55, false)⟩,
  ⟨(some 60), .sl 7 (.t 58) none (some (.t 59)) none, some (55, false)⟩,
  ⟨(some 61), .fa 1 1 (.t 4), some (55, false)⟩,
  ⟨(some 62), .ld (some 6) (.t 61), some (55, false)⟩,
  ⟨(some 63), .call 98 [(.t 56), (.t 60), (.t 62)], some (55, false)⟩,
  ⟨(some 64), .un .not (.t 63), some (55, false)⟩,
  ⟨(some 65), .pick (.t 55) (.c (.bool true)) (.t 64), none⟩]
def d47_6 : Option (List (List Nat)) := (some [[], [0], [1], [2], [3, 2], [4], [5, 4], [6, 4, 4], [7, 4], [4, 8], [9, 7], [10], [11, 10], [12, 10, 10], [13], [14, 13], [13], [16, 13], [15, 17, 13], [18, 13], [19, 13], [13], [21, 13], [20, 22, 13], [13, 23, 10], [10, 24], [25, 13], [26], [26], [28, 26], [26], [29, 30, 26], [26], [32, 26], [27, 31, 33, 26, 26], [34, 26], [26, 35]])
def l47_6 : List Nat := [0, 1, 3, 7, 15, 31, 63, 127, 255, 511, 1023, 2047, 4095, 8191, 16383, 32767, 16383, 81919, 262143, 524287, 1048575, 16383, 2113535, 8388607, 16777215, 33554431, 67108863, 134217727, 134217727, 402653183, 134217727, 2013265919, 134217727, 4429185023, 17179869183, 34359738367, 68719476735]
theorem cd47_6 : dOk d47_6 g47_6 l47_6 = true := by kernel_rfl
def g47_7 : List G := [⟨(some 2), .mv (.c (.int .i64 (13))), none⟩]
def d47_7 : Option (List (List Nat)) := none
def l47_7 : List Nat := []
theorem cd47_7 : dOk d47_7 g47_7 l47_7 = true := by kernel_rfl
def g47_8 : List G := [⟨(some 66), .bin .add (.t 24) (.c (.int .i64 (1))), none⟩,
  ⟨(some 24), .mv (.t 66), none⟩]
def d47_8 : Option (List (List Nat)) := none
def l47_8 : List Nat := []
theorem cd47_8 : dOk d47_8 g47_8 l47_8 = true := by kernel_rfl
def g47_9 : List G := [⟨(some 2), .mv (.c (.int .i64 (0))), none⟩]
def d47_9 : Option (List (List Nat)) := none
def l47_9 : List Nat := []
theorem cd47_9 : dOk d47_9 g47_9 l47_9 = true := by kernel_rfl
def c47 : AC := (.seq (.reg d47_0 g47_0) (.seq (.seq (.reg d47_1 g47_1) (.cond (.t 20) (.seq (.reg d47_2 g47_2) .ret) .skip)) (.seq (.seq (.reg d47_3 g47_3) (.block 0 (.loop (.seq (.reg d47_4 g47_4) (.seq (.cond (.t 25) .skip (.exit 0)) (.seq (.block 1 (.seq (.reg d47_5 g47_5) (.seq (.reg d47_6 g47_6) (.cond (.t 65) (.seq (.reg d47_7 g47_7) .ret) .skip)))) (.reg d47_8 g47_8))))))) (.seq (.reg d47_9 g47_9) .ret))))
def r47 : List RV := [.tmp 2]
theorem cc47 : (Try.f47.body.bind (cCode Try.prog Try.f47.ntmps)) = some c47 := by kernel_rfl
theorem cr47 : cRes Try.prog Try.f47.results.toList = some r47 := by kernel_rfl
theorem ca47 : callable Try.prog 47 = true := by kernel_rfl
def g48_0 : List G := [⟨(some 1), .box (.t 0), none⟩,
  ⟨(some 2), .mv (.c (.int .i64 (0))), none⟩]
def d48_0 : Option (List (List Nat)) := none
def l48_0 : List Nat := []
theorem cd48_0 : dOk d48_0 g48_0 l48_0 = true := by kernel_rfl
def g48_1 : List G := [⟨(some 6), .fa 0 0 (.t 1), none⟩,
  ⟨(some 7), .ld (some 5) (.t 6), none⟩,
  ⟨(some 8), .call 44 [(.t 7)], none⟩,
  ⟨(some 9), .bin .neq (.t 8) (.c (.int .i64 (0))), none⟩,
  ⟨(some 10), .mv (.t 9), none⟩,
  ⟨(some 11), .fa 1 5 (.t 1), some (10, false)⟩,
  ⟨(some 12), .ld none (.t 11), some (10, false)⟩,
  ⟨(some 13), .call 94 [(.t 12), (.c (.int .i64 (0))), (.c (.int .i64 (2)))], some (10, false)⟩,
  ⟨(some 14), .un .not (.t 13), some (10, false)⟩,
  ⟨(some 15), .pick (.t 10) (.c (.bool true)) (.t 14), none⟩,
  ⟨(some 16), .mv (.t 15), none⟩,
  ⟨(some 17), .fa 2 6 (.t 1), some (16, false)⟩,
  ⟨(some 18), .ld none (.t 17), some (16, false)⟩,
  ⟨(some 19), .len (.t 18), some (16, false)⟩,
  ⟨(some 20), .bin .gtr (.t 19) (.c (.int .i64 (40))), some (16, false)⟩,
  ⟨(some 21), .pick (.t 16) (.c (.bool true)) (.t 20), none⟩]
def d48_1 : Option (List (List Nat)) := none
def l48_1 : List Nat := []
theorem cd48_1 : dOk d48_1 g48_1 l48_1 = true := by kernel_rfl
def g48_2 : List G := [⟨(some 2), .mv (.c (.int .i64 (13))), none⟩]
def d48_2 : Option (List (List Nat)) := none
def l48_2 : List Nat := []
theorem cd48_2 : dOk d48_2 g48_2 l48_2 = true := by kernel_rfl
def g48_3 : List G := [⟨(some 3), .mv (.c (.int .i64 (0))), none⟩]
def d48_3 : Option (List (List Nat)) := none
def l48_3 : List Nat := []
theorem cd48_3 : dOk d48_3 g48_3 l48_3 = true := by kernel_rfl
def g48_4 : List G := [⟨(some 22), .mv (.t 3), none⟩,
  ⟨(some 23), .fa 2 6 (.t 1), none⟩,
  ⟨(some 24), .ld none (.t 23), none⟩,
  ⟨(some 25), .len (.t 24), none⟩,
  ⟨(some 26), .bin .lss (.t 22) (.t 25), none⟩]
def d48_4 : Option (List (List Nat)) := none
def l48_4 : List Nat := []
theorem cd48_4 : dOk d48_4 g48_4 l48_4 = true := by kernel_rfl
def g48_5 : List G := [⟨(some 29), .fa 2 6 (.t 1), none⟩,
  ⟨(some 30), .ld none (.t 29), none⟩,
  ⟨(some 31), .mv (.t 3), none⟩,
  ⟨(some 32), .is 7 (.t 30) (.t 31), none⟩,
  ⟨(some 33), .ld (some 7) (.t 32), none⟩,
  ⟨(some 4), .alloc (.agg [.int .i64 (0), .agg [.int .i64 (0), .int .i64 (0), .int .i64 (0), .int .i64 (0), .int .i64 (0), .int .i64 (0)]]), none⟩,
  ⟨none, .st (some 7) (.t 4) (.t 33), none⟩]
def d48_5 : Option (List (List Nat)) := none
def l48_5 : List Nat := []
theorem cd48_5 : dOk d48_5 g48_5 l48_5 = true := by kernel_rfl
def g48_6 : List G := [⟨(some 34), .fa 0 0 (.t 4), none⟩,
  ⟨(some 35), .ld none (.t 34), none⟩,
  ⟨(some 36), .call 94 [(.t 35), (.c (.int .i64 (1))), (.c (.int .i64 (99)))], none⟩,
  ⟨(some 37), .un .not (.t 36), none⟩,
  ⟨(some 38), .mv (.t 37), none⟩,
  ⟨(some 39), .fa 1 1 (.t 4), some (38, false)⟩,
  ⟨(some 40), .ld (some 6) (.t 39), some (38, false)⟩,
  ⟨(some 41), .call 42 [(.t 40)], some (38, false)⟩,
  ⟨(some 42), .bin .neq (.t 41) (.c (.int .i64 (0))), some (38, false)⟩,
  ⟨(some 43), .pick (.t 38) (.c (.bool true)) (.t 42), none⟩,
  ⟨(some 44), .mv (.t 43), none⟩,
  ⟨(some 45), .mv (.t 3), some (44, false)⟩,
  ⟨(some 46), .bin .gtr (.t 45) (.c (.int .i64 (0))), some (44, false)⟩,
  ⟨(some 47), .mv (.t 46), some (44, false)⟩,
  ⟨(some 48), .fa 2 6 (.t 1), some (47, true)⟩,
  ⟨(some 49), .ld none (.t 48), some (47, true)⟩,
  ⟨(some 50), .mv (.t 3), some (47, true)⟩,
  ⟨(some 51), .bin .sub (.t 50) (.c (.int .i64 (1))), some (47, true)⟩,
  ⟨(some 52), .is 7 (.t 49) (.t 51), some (47, true)⟩,
  ⟨(some 53), .fa 0 0 (.t 52), some (47, true)⟩,
  ⟨(some 54), .ld none (.t 53), some (47, true)⟩,
  ⟨(some 55), .fa 0 0 (.t 4), some (47, true)⟩,
  ⟨(some 56), .ld none (.t 55), some (47, true)⟩,
  ⟨(some 57), .bin .geq (.t 54) (.t 56), some (47, true)⟩,
  ⟨(some 58), .pick (.t 47) (.t 57) (.c (.bool false)), some (44, false)⟩,
  ⟨(some 59), .pick (.t 44) (.c (.bool true)) (.t 58), none⟩]
def d48_6 : Option (List (List Nat)) := (some [[], [0], [1], [2], [3, 2], [4], [5, 4], [6, 4, 4], [7, 4], [4, 8], [9, 7], [10], [11, 10], [12, 10, 10], [13], [14, 13], [13], [16, 13], [15, 17, 13], [18, 13], [19, 13], [13], [21, 13], [20, 22, 13], [13, 23, 10], [10, 24]])
def l48_6 : List Nat := [0, 1, 3, 7, 15, 31, 63, 127, 255, 511, 1023, 2047, 4095, 8191, 16383, 32767, 16383, 81919, 262143, 524287, 1048575, 16383, 2113535, 8388607, 16777215, 33554431]
theorem cd48_6 : dOk d48_6 g48_6 l48_6 = true := by kernel_rfl
def g48_7 : List G := [⟨(some 2), .mv (.c (.int .i64 (13))), none⟩]
def d48_7 : Option (List (List Nat)) := none
def l48_7 : List Nat := []
theorem cd48_7 : dOk d48_7 g48_7 l48_7 = true := by kernel_rfl
def g48_8 : List G := [⟨(some 5), .mv (.c (.int .i64 (0))), none⟩]
def d48_8 : Option (List (List Nat)) := none
def l48_8 : List Nat := []
theorem cd48_8 : dOk d48_8 g48_8 l48_8 = true := by kernel_rfl
def g48_9 : List G := [⟨(some 60), .mv (.t 5), none⟩,
  ⟨(some 61), .mv (.t 3), none⟩,
  ⟨(some 62), .bin .lss (.t 60) (.t 61), none⟩]
def d48_9 : Option (List (List Nat)) := none
def l48_9 : List Nat := []
theorem cd48_9 : dOk d48_9 g48_9 l48_9 = true := by kernel_rfl
def g48_10 : List G := [⟨(some 65), .fa 0 0 (.t 1), none⟩,
  ⟨(some 66), .ld (some 5) (.t 65), none⟩,
  ⟨(some 67), .fa 2 6 (.t 1), none⟩,
  ⟨(some 68), .ld none (.t 67), none⟩,
  ⟨(some 69), .mv (.t 5), none⟩,
  ⟨(some 70), .is 7 (.t 68) (.t 69), none⟩,
  ⟨(some 71), .fa 1 1 (.t 70), none⟩,
  ⟨(some 72), .ld (some 6) (.t 71), none⟩,
  ⟨(some 73), .fa 1 1 (.t 4), none⟩,
  ⟨(some 74), .ld (some 6) (.t 73), none⟩,
  ⟨(some 75), .call 99 [(.t 66), (.t 72), (.t 74)], none⟩,
  ⟨(some 76), .fa 1 5 (.t 1), none⟩,
  ⟨(some 77), .ld none (.t 76), none⟩,
  ⟨(some 78), .bin .mul (.c (.int .i64 (2))) (.t 77), none⟩,
  ⟨(some 79), .bin .leq (.t 75) (.t 78), none⟩]
def d48_10 : Option (List (List Nat)) := (some [[], [0], [], [2], [], [3, 4], [5], [6], [], [8], [1, 7, 9], [], [11], [12], [10, 13]])
def l48_10 : List Nat := [0, 1, 0, 4, 0, 28, 60, 124, 0, 256, 1023, 0, 2048, 6144, 16383]
theorem cd48_10 : dOk d48_10 g48_10 l48_10 = true := by kernel_rfl
def g48_11 : List G := [⟨(some 2), .mv (.c (.int .i64 (13))), none⟩]
def d48_11 : Option (List (List Nat)) := none
def l48_11 : List Nat := []
theorem cd48_11 : dOk d48_11 g48_11 l48_11 = true := by kernel_rfl
def g48_12 : List G := [⟨(some 63), .mv (.t 5), none⟩,
  ⟨(some 64), .bin .add (.t 63) (.c (.int .i64 (1))), none⟩,
  ⟨(some 5), .mv (.t 64), none⟩]
def d48_12 : Option (List (List Nat)) := none
def l48_12 : List Nat := []
theorem cd48_12 : dOk d48_12 g48_12 l48_12 = true := by kernel_rfl
def g48_13 : List G := [⟨(some 27), .mv (.t 3), none⟩,
  ⟨(some 28), .bin .add (.t 27) (.c (.int .i64 (1))), none⟩,
  ⟨(some 3), .mv (.t 28), none⟩]
def d48_13 : Option (List (List Nat)) := none
def l48_13 : List Nat := []
theorem cd48_13 : dOk d48_13 g48_13 l48_13 = true := by kernel_rfl
def g48_14 : List G := [⟨(some 2), .mv (.c (.int .i64 (0))), none⟩]
def d48_14 : Option (List (List Nat)) := none
def l48_14 : List Nat := []
theorem cd48_14 : dOk d48_14 g48_14 l48_14 = true := by kernel_rfl
def c48 : AC := (.seq (.reg d48_0 g48_0) (.seq (.seq (.reg d48_1 g48_1) (.cond (.t 21) (.seq (.reg d48_2 g48_2) .ret) .skip)) (.seq (.seq (.reg d48_3 g48_3) (.block 0 (.loop (.seq (.seq (.reg d48_4 g48_4) (.cond (.t 26) .skip (.exit 0))) (.seq (.block 1 (.seq (.reg d48_5 g48_5) (.seq (.seq (.reg d48_6 g48_6) (.cond (.t 59) (.seq (.reg d48_7 g48_7) .ret) .skip)) (.seq (.reg d48_8 g48_8) (.block 2 (.loop (.seq (.seq (.reg d48_9 g48_9) (.cond (.t 62) .skip (.exit 2))) (.seq (.block 3 (.seq (.reg d48_10 g48_10) (.cond (.t 79) (.seq (.reg d48_11 g48_11) .ret) .skip))) (.reg d48_12 g48_12))))))))) (.reg d48_13 g48_13)))))) (.seq (.reg d48_14 g48_14) .ret))))
def r48 : List RV := [.tmp 2]
theorem cc48 : (Try.f48.body.bind (cCode Try.prog Try.f48.ntmps)) = some c48 := by kernel_rfl
theorem cr48 : cRes Try.prog Try.f48.results.toList = some r48 := by kernel_rfl
theorem ca48 : callable Try.prog 48 = true := by kernel_rfl
def g55_0 : List G := [⟨(some 1), .box (.t 0), none⟩,
  ⟨(some 2), .alloc (.agg [.int .i64 (0), .int .i64 (0), .int .i64 (0), .int .i64 (0), .int .i64 (0), .int .i64 (0)]), none⟩,
  ⟨(some 3), .alloc (.int .i64 (0)), none⟩]
def d55_0 : Option (List (List Nat)) := none
def l55_0 : List Nat := []
theorem cd55_0 : dOk d55_0 g55_0 l55_0 = true := by kernel_rfl
def g55_1 : List G := [⟨(some 8), .ld (some 7) (.t 1), none⟩,
  ⟨(some 9), .call 47 [(.t 8)], none⟩,
  ⟨(some 4), .mv (.t 9), none⟩]
def d55_1 : Option (List (List Nat)) := none
def l55_1 : List Nat := []
theorem cd55_1 : dOk d55_1 g55_1 l55_1 = true := by kernel_rfl
def g55_2 : List G := [⟨(some 10), .mv (.t 4), none⟩,
  ⟨(some 11), .bin .neq (.t 10) (.c (.int .i64 (0))), none⟩]
def d55_2 : Option (List (List Nat)) := none
def l55_2 : List Nat := []
theorem cd55_2 : dOk d55_2 g55_2 l55_2 = true := by kernel_rfl
def g55_3 : List G := [⟨(some 12), .bld [.int .i64 (0), .int .i64 (0), .int .i64 (0), .int .i64 (0), .int .i64 (0), .int .i64 (0)] [], none⟩,
  ⟨(some 13), .mv (.t 4), none⟩,
  ⟨none, .st (some 6) (.t 2) (.t 12), none⟩,
  ⟨none, .st none (.t 3) (.t 13), none⟩]
def d55_3 : Option (List (List Nat)) := none
def l55_3 : List Nat := []
theorem cd55_3 : dOk d55_3 g55_3 l55_3 = true := by kernel_rfl
def g55_4 : List G := [⟨(some 14), .fa 2 6 (.t 1), none⟩,
  ⟨(some 15), .ld none (.t 14), none⟩,
  ⟨(some 16), .len (.t 15), none⟩,
  ⟨(some 17), .bin .eql (.t 16) (.c (.int .i64 (40))), none⟩]
def d55_4 : Option (List (List Nat)) := none
def l55_4 : List Nat := []
theorem cd55_4 : dOk d55_4 g55_4 l55_4 = true := by kernel_rfl
def g55_5 : List G := [⟨(some 18), .bld [.int .i64 (0), .int .i64 (0), .int .i64 (0), .int .i64 (0), .int .i64 (0), .int .i64 (0)] [], none⟩,
  ⟨none, .st (some 6) (.t 2) (.t 18), none⟩,
  ⟨none, .st none (.t 3) (.c (.int .i64 (16))), none⟩]
def d55_5 : Option (List (List Nat)) := none
def l55_5 : List Nat := []
theorem cd55_5 : dOk d55_5 g55_5 l55_5 = true := by kernel_rfl
def g55_6 : List G := [⟨(some 19), .call 101 [], none⟩]
def d55_6 : Option (List (List Nat)) := none
def l55_6 : List Nat := []
theorem cd55_6 : dOk d55_6 g55_6 l55_6 = true := by kernel_rfl
def g55_7 : List G := [⟨(some 5), .alloc (.agg [.int .i64 (0), .int .i64 (0), .int .i64 (0), .int .i64 (0), .int .i64 (0), .int .i64 (0)]), none⟩,
  ⟨none, .st (some 6) (.t 5) (.t 20), none⟩]
def d55_7 : Option (List (List Nat)) := none
def l55_7 : List Nat := []
theorem cd55_7 : dOk d55_7 g55_7 l55_7 = true := by kernel_rfl
def g55_8 : List G := [⟨(some 21), .fa 2 6 (.t 1), none⟩,
  ⟨(some 22), .ld none (.t 21), none⟩,
  ⟨(some 23), .len (.t 22), none⟩,
  ⟨(some 24), .mv (.c (.int .i64 (0))), none⟩]
def d55_8 : Option (List (List Nat)) := none
def l55_8 : List Nat := []
theorem cd55_8 : dOk d55_8 g55_8 l55_8 = true := by kernel_rfl
def g55_9 : List G := [⟨(some 25), .bin .lss (.t 24) (.t 23), none⟩]
def d55_9 : Option (List (List Nat)) := none
def l55_9 : List Nat := []
theorem cd55_9 : dOk d55_9 g55_9 l55_9 = true := by kernel_rfl
def g55_10 : List G := [⟨(some 26), .is 7 (.t 22) (.t 24), none⟩,
  ⟨(some 27), .ld (some 7) (.t 26), none⟩,
  ⟨(some 7), .alloc (.agg [.int .i64 (0), .agg [.int .i64 (0), .int .i64 (0), .int .i64 (0), .int .i64 (0), .int .i64 (0), .int .i64 (0)]]), none⟩,
  ⟨none, .st (some 7) (.t 7) (.t 27), none⟩]
def d55_10 : Option (List (List Nat)) := none
def l55_10 : List Nat := []
theorem cd55_10 : dOk d55_10 g55_10 l55_10 = true := by kernel_rfl
def g55_11 : List G := [⟨(some 28), .fa 0 0 (.t 1), none⟩,
  ⟨(some 29), .ld (some 5) (.t 28), none⟩,
  ⟨(some 30), .fa 1 1 (.t 7), none⟩,
  ⟨(some 31), .ld (some 6) (.t 30), none⟩,
  ⟨(some 32), .ld (some 6) (.t 5), none⟩,
  ⟨(some 33), .call 87 [(.t 29), (.t 31), (.t 32)], none⟩,
  ⟨(some 34), .fa 1 5 (.t 1), none⟩,
  ⟨(some 35), .ld none (.t 34), none⟩,
  ⟨(some 36), .bin .mul (.c (.int .i64 (2))) (.t 35), none⟩,
  ⟨(some 37), .bin .leq (.t 33) (.t 36), none⟩]
def d55_11 : Option (List (List Nat)) := (some [[], [0], [], [2], [], [1, 3, 4], [], [6], [7], [5, 8]])
def l55_11 : List Nat := [0, 1, 0, 4, 0, 31, 0, 64, 192, 511]
theorem cd55_11 : dOk d55_11 g55_11 l55_11 = true := by kernel_rfl
def g55_12 : List G := [⟨(some 38), .bin .add (.t 24) (.c (.int .i64 (1))), none⟩,
  ⟨(some 24), .mv (.t 38), none⟩]
def d55_12 : Option (List (List Nat)) := none
def l55_12 : List Nat := []
theorem cd55_12 : dOk d55_12 g55_12 l55_12 = true := by kernel_rfl
def g55_13 : List G := [⟨(some 39), .ld (some 6) (.t 5), none⟩,
  ⟨none, .st (some 6) (.t 2) (.t 39), none⟩,
  ⟨none, .st none (.t 3) (.c (.int .i64 (0))), none⟩]
def d55_13 : Option (List (List Nat)) := none
def l55_13 : List Nat := []
theorem cd55_13 : dOk d55_13 g55_13 l55_13 = true := by kernel_rfl
def g55_14 : List G := [⟨(some 40), .bld [.int .i64 (0), .int .i64 (0), .int .i64 (0), .int .i64 (0), .int .i64 (0), .int .i64 (0)] [], none⟩,
  ⟨none, .st (some 6) (.t 2) (.t 40), none⟩,
  ⟨none, .st none (.t 3) (.c (.int .i64 (16))), none⟩]
def d55_14 : Option (List (List Nat)) := none
def l55_14 : List Nat := []
theorem cd55_14 : dOk d55_14 g55_14 l55_14 = true := by kernel_rfl
def c55 : AC := (.seq (.reg d55_0 g55_0) (.scope (.seq (.seq (.reg d55_1 g55_1) (.seq (.reg d55_2 g55_2) (.cond (.t 11) (.seq (.reg d55_3 g55_3) .ret) .skip))) (.seq (.seq (.reg d55_4 g55_4) (.cond (.t 17) (.seq (.reg d55_5 g55_5) .ret) .skip)) (.seq .label (.seq (.seq (.reg d55_6 g55_6) (.block 0 (.rfun (.t 19) [20] (.reg d55_7 g55_7) (.block 1 (.seq (.seq (.reg d55_8 g55_8) (.block 2 (.loop (.seq (.reg d55_9 g55_9) (.seq (.cond (.t 25) .skip (.exit 2)) (.seq (.block 3 (.seq (.reg d55_10 g55_10) (.seq (.reg d55_11 g55_11) (.cond (.t 37) (.exit 1) .skip)))) (.reg d55_12 g55_12))))))) (.seq (.reg d55_13 g55_13) .ret)))))) (.seq (.reg d55_14 g55_14) .ret)))))))
def r55 : List RV := [.cell 2 (some 6), .cell 3 none]
theorem cc55 : (Try.f55.body.bind (cCode Try.prog Try.f55.ntmps)) = some c55 := by kernel_rfl
theorem cr55 : cRes Try.prog Try.f55.results.toList = some r55 := by kernel_rfl
theorem ca55 : callable Try.prog 55 = true := by kernel_rfl
def g56_0 : List G := [⟨(some 1), .box (.t 0), none⟩,
  ⟨(some 2), .alloc (.agg [.int .i64 (0), .int .i64 (0), .int .i64 (0), .int .i64 (0), .int .i64 (0), .int .i64 (0)]), none⟩,
  ⟨(some 3), .mv (.c (.int .i64 (0))), none⟩]
def d56_0 : Option (List (List Nat)) := none
def l56_0 : List Nat := []
theorem cd56_0 : dOk d56_0 g56_0 l56_0 = true := by kernel_rfl
def g56_1 : List G := [⟨(some 6), .ld (some 7) (.t 1), none⟩,
  ⟨(some 7), .call 48 [(.t 6)], none⟩,
  ⟨(some 8), .bin .neq (.t 7) (.c (.int .i64 (0))), none⟩]
def d56_1 : Option (List (List Nat)) := none
def l56_1 : List Nat := []
theorem cd56_1 : dOk d56_1 g56_1 l56_1 = true := by kernel_rfl
def g56_2 : List G := [⟨(some 9), .bld [.int .i64 (0), .int .i64 (0), .int .i64 (0), .int .i64 (0), .int .i64 (0), .int .i64 (0)] [], none⟩,
  ⟨none, .st (some 6) (.t 2) (.t 9), none⟩,
  ⟨(some 3), .mv (.c (.int .i64 (13))), none⟩]
def d56_2 : Option (List (List Nat)) := none
def l56_2 : List Nat := []
theorem cd56_2 : dOk d56_2 g56_2 l56_2 = true := by kernel_rfl
def g56_3 : List G := [⟨(some 10), .fa 2 6 (.t 1), none⟩,
  ⟨(some 11), .ld none (.t 10), none⟩,
  ⟨(some 12), .len (.t 11), none⟩,
  ⟨(some 13), .bin .eql (.t 12) (.c (.int .i64 (40))), none⟩]
def d56_3 : Option (List (List Nat)) := none
def l56_3 : List Nat := []
theorem cd56_3 : dOk d56_3 g56_3 l56_3 = true := by kernel_rfl
def g56_4 : List G := [⟨(some 14), .bld [.int .i64 (0), .int .i64 (0), .int .i64 (0), .int .i64 (0), .int .i64 (0), .int .i64 (0)] [], none⟩,
  ⟨none, .st (some 6) (.t 2) (.t 14), none⟩,
  ⟨(some 3), .mv (.c (.int .i64 (16))), none⟩]
def d56_4 : Option (List (List Nat)) := none
def l56_4 : List Nat := []
theorem cd56_4 : dOk d56_4 g56_4 l56_4 = true := by kernel_rfl
def g56_5 : List G := [⟨(some 4), .mv (.c (.int .i64 (0))), none⟩]
def d56_5 : Option (List (List Nat)) := none
def l56_5 : List Nat := []
theorem cd56_5 : dOk d56_5 g56_5 l56_5 = true := by kernel_rfl
def g56_6 : List G := [⟨(some 15), .mv (.t 4), none⟩,
  ⟨(some 16), .bin .lss (.t 15) (.c (.int .i64 (15625))), none⟩]
def d56_6 : Option (List (List Nat)) := none
def l56_6 : List Nat := []
theorem cd56_6 : dOk d56_6 g56_6 l56_6 = true := by kernel_rfl
def g56_7 : List G := [⟨(some 19), .mv (.t 4), none⟩,
  ⟨(some 20), .call 35 [(.t 19)], none⟩,
  ⟨(some 5), .alloc (.agg [.int .i64 (0), .int .i64 (0), .int .i64 (0), .int .i64 (0), .int .i64 (0), .int .i64 (0)]), none⟩,
  ⟨none, .st (some 6) (.t 5) (.t 20), none⟩]
def d56_7 : Option (List (List Nat)) := none
def l56_7 : List Nat := []
theorem cd56_7 : dOk d56_7 g56_7 l56_7 = true := by kernel_rfl
def g56_8 : List G := [⟨(some 21), .ld (some 7) (.t 1), none⟩,
  ⟨(some 22), .ld (some 6) (.t 5), none⟩,
  ⟨(some 23), .call 83 [(.t 21), (.t 22)], none⟩,
  ⟨(some 24), .un .not (.t 23), none⟩]
def d56_8 : Option (List (List Nat)) := none
def l56_8 : List Nat := []
theorem cd56_8 : dOk d56_8 g56_8 l56_8 = true := by kernel_rfl
def g56_9 : List G := [⟨(some 25), .ld (some 6) (.t 5), none⟩,
  ⟨none, .st (some 6) (.t 2) (.t 25), none⟩,
  ⟨(some 3), .mv (.c (.int .i64 (0))), none⟩]
def d56_9 : Option (List (List Nat)) := none
def l56_9 : List Nat := []
theorem cd56_9 : dOk d56_9 g56_9 l56_9 = true := by kernel_rfl
def g56_10 : List G := [⟨(some 17), .mv (.t 4), none⟩,
  ⟨(some 18), .bin .add (.t 17) (.c (.int .i64 (1))), none⟩,
  ⟨(some 4), .mv (.t 18), none⟩]
def d56_10 : Option (List (List Nat)) := none
def l56_10 : List Nat := []
theorem cd56_10 : dOk d56_10 g56_10 l56_10 = true := by kernel_rfl
def g56_11 : List G := [⟨(some 26), .bld [.int .i64 (0), .int .i64 (0), .int .i64 (0), .int .i64 (0), .int .i64 (0), .int .i64 (0)] [], none⟩,
  ⟨none, .st (some 6) (.t 2) (.t 26), none⟩,
  ⟨(some 3), .mv (.c (.int .i64 (16))), none⟩]
def d56_11 : Option (List (List Nat)) := none
def l56_11 : List Nat := []
theorem cd56_11 : dOk d56_11 g56_11 l56_11 = true := by kernel_rfl
def c56 : AC := (.seq (.reg d56_0 g56_0) (.seq (.seq (.reg d56_1 g56_1) (.cond (.t 8) (.seq (.reg d56_2 g56_2) .ret) .skip)) (.seq (.seq (.reg d56_3 g56_3) (.cond (.t 13) (.seq (.reg d56_4 g56_4) .ret) .skip)) (.seq (.seq (.reg d56_5 g56_5) (.block 0 (.loop (.seq (.seq (.reg d56_6 g56_6) (.cond (.t 16) .skip (.exit 0))) (.seq (.block 1 (.seq (.reg d56_7 g56_7) (.seq (.reg d56_8 g56_8) (.cond (.t 24) (.seq (.reg d56_9 g56_9) .ret) .skip)))) (.reg d56_10 g56_10)))))) (.seq (.reg d56_11 g56_11) .ret)))))
def r56 : List RV := [.cell 2 (some 6), .tmp 3]
theorem cc56 : (Try.f56.body.bind (cCode Try.prog Try.f56.ntmps)) = some c56 := by kernel_rfl
theorem cr56 : cRes Try.prog Try.f56.results.toList = some r56 := by kernel_rfl
theorem ca56 : callable Try.prog 56 = true := by kernel_rfl
def g57_0 : List G := [⟨(some 2), .box (.t 0), none⟩,
  ⟨(some 4), .alloc (.agg [.agg [.int .i64 (0), .int .i64 (0), .int .i64 (0), .int .i64 (0), .int .i64 (0)], .int .i64 (0), .nils 7]), none⟩,
  ⟨(some 5), .mv (.c (.int .i64 (0))), none⟩]
def d57_0 : Option (List (List Nat)) := none
def l57_0 : List Nat := []
theorem cd57_0 : dOk d57_0 g57_0 l57_0 = true := by kernel_rfl
def g57_1 : List G := [⟨(some 11), .ld (some 7) (.t 2), none⟩,
  ⟨(some 12), .mv (.t 1), none⟩,
  ⟨(some 13), .call 90 [(.t 11), (.t 12)], none⟩,
  ⟨(some 6), .mv (.t 13), none⟩]
def d57_1 : Option (List (List Nat)) := none
def l57_1 : List Nat := []
theorem cd57_1 : dOk d57_1 g57_1 l57_1 = true := by kernel_rfl
def g57_2 : List G := [⟨(some 14), .mv (.t 6), none⟩,
  ⟨(some 15), .bin .neq (.t 14) (.c (.int .i64 (0))), none⟩]
def d57_2 : Option (List (List Nat)) := none
def l57_2 : List Nat := []
theorem cd57_2 : dOk d57_2 g57_2 l57_2 = true := by kernel_rfl
def g57_3 : List G := [⟨(some 16), .bld [.agg [.int .i64 (0), .int .i64 (0), .int .i64 (0), .int .i64 (0), .int .i64 (0)], .int .i64 (0), .nils 7] [], none⟩,
  ⟨(some 17), .mv (.t 6), none⟩,
  ⟨none, .st (some 7) (.t 4) (.t 16), none⟩,
  ⟨(some 5), .mv (.t 17), none⟩]
def d57_3 : Option (List (List Nat)) := none
def l57_3 : List Nat := []
theorem cd57_3 : dOk d57_3 g57_3 l57_3 = true := by kernel_rfl
def g57_4 : List G := [⟨(some 19), .ld (some 7) (.t 2), none⟩,
  ⟨(some 20), .mv (.t 1), none⟩,
  ⟨(some 21), .call 91 [(.t 19), (.t 20)], none⟩,
  ⟨(some 18), .mv (.t 21), none⟩,
  ⟨(some 22), .ext (.t 18) 0, none⟩,
  ⟨(some 23), .ext (.t 18) 1, none⟩,
  ⟨(some 7), .mv (.t 22), none⟩,
  ⟨(some 8), .mv (.t 23), none⟩]
def d57_4 : Option (List (List Nat)) := none
def l57_4 : List Nat := []
theorem cd57_4 : dOk d57_4 g57_4 l57_4 = true := by kernel_rfl
def g57_5 : List G := [⟨(some 24), .mv (.t 8), none⟩]
def d57_5 : Option (List (List Nat)) := none
def l57_5 : List Nat := []
theorem cd57_5 : dOk d57_5 g57_5 l57_5 = true := by kernel_rfl
def g57_6 : List G := [⟨(some 25), .bld [.agg [.int .i64 (0), .int .i64 (0), .int .i64 (0), .int .i64 (0), .int .i64 (0)], .int .i64 (0), .nils 7] [], none⟩,
  ⟨none, .st (some 7) (.t 4) (.t 25), none⟩,
  ⟨(some 5), .mv (.c (.int .i64 (15))), none⟩]
def d57_6 : Option (List (List Nat)) := none
def l57_6 : List Nat := []
theorem cd57_6 : dOk d57_6 g57_6 l57_6 = true := by kernel_rfl
def g57_7 : List G := [⟨(some 27), .ld (some 7) (.t 2), none⟩,
  ⟨(some 28), .call 55 [(.t 27)], none⟩,
  ⟨(some 26), .mv (.t 28), none⟩,
  ⟨(some 29), .ext (.t 26) 0, none⟩,
  ⟨(some 30), .ext (.t 26) 1, none⟩,
  ⟨(some 9), .alloc (.agg [.int .i64 (0), .int .i64 (0), .int .i64 (0), .int .i64 (0), .int .i64 (0), .int .i64 (0)]), none⟩,
  ⟨none, .st (some 6) (.t 9) (.t 29), none⟩,
  ⟨(some 10), .mv (.t 30), none⟩]
def d57_7 : Option (List (List Nat)) := none
def l57_7 : List Nat := []
theorem cd57_7 : dOk d57_7 g57_7 l57_7 = true := by kernel_rfl
def g57_8 : List G := [⟨(some 31), .mv (.t 10), none⟩,
  ⟨(some 32), .bin .neq (.t 31) (.c (.int .i64 (0))), none⟩]
def d57_8 : Option (List (List Nat)) := none
def l57_8 : List Nat := []
theorem cd57_8 : dOk d57_8 g57_8 l57_8 = true := by kernel_rfl
def g57_9 : List G := [⟨(some 33), .bld [.agg [.int .i64 (0), .int .i64 (0), .int .i64 (0), .int .i64 (0), .int .i64 (0)], .int .i64 (0), .nils 7] [], none⟩,
  ⟨(some 34), .mv (.t 10), none⟩,
  ⟨none, .st (some 7) (.t 4) (.t 33), none⟩,
  ⟨(some 5), .mv (.t 34), none⟩]
def d57_9 : Option (List (List Nat)) := none
def l57_9 : List Nat := []
theorem cd57_9 : dOk d57_9 g57_9 l57_9 = true := by kernel_rfl
def g57_10 : List G := [⟨(some 35), .ld (some 7) (.t 2), none⟩,
  ⟨(some 36), .mv (.t 1), none⟩,
  ⟨(some 37), .ld (some 6) (.t 9), none⟩,
  ⟨(some 38), .bld [.int .i64 (0), .agg [.int .i64 (0), .int .i64 (0), .int .i64 (0), .int .i64 (0), .int .i64 (0), .int .i64 (0)]] [(0, (.t 36)), (1, (.t 37))], none⟩,
  ⟨(some 39), .call 102 [(.t 35), (.t 38)], none⟩,
  ⟨none, .st (some 7) (.t 4) (.t 39), none⟩,
  ⟨(some 5), .mv (.c (.int .i64 (0))), none⟩]
def d57_10 : Option (List (List Nat)) := none
def l57_10 : List Nat := []
theorem cd57_10 : dOk d57_10 g57_10 l57_10 = true := by kernel_rfl
def c57 : AC := (.seq (.reg d57_0 g57_0) (.seq (.seq (.reg d57_1 g57_1) (.seq (.reg d57_2 g57_2) (.cond (.t 15) (.seq (.reg d57_3 g57_3) .ret) .skip))) (.seq (.seq (.reg d57_4 g57_4) (.seq (.reg d57_5 g57_5) (.cond (.t 24) (.seq (.reg d57_6 g57_6) .ret) .skip))) (.seq (.reg d57_7 g57_7) (.seq (.seq (.reg d57_8 g57_8) (.cond (.t 32) (.seq (.reg d57_9 g57_9) .ret) .skip)) (.seq (.reg d57_10 g57_10) .ret))))))
def r57 : List RV := [.cell 4 (some 7), .tmp 5]
theorem cc57 : (Try.f57.body.bind (cCode Try.prog Try.f57.ntmps)) = some c57 := by kernel_rfl
theorem cr57 : cRes Try.prog Try.f57.results.toList = some r57 := by kernel_rfl
theorem ca57 : callable Try.prog 57 = true := by kernel_rfl
def g58_0 : List G := [⟨(some 2), .box (.t 0), none⟩,
  ⟨(some 4), .alloc (.agg [.agg [.int .i64 (0), .int .i64 (0), .int .i64 (0), .int .i64 (0), .int .i64 (0)], .int .i64 (0), .nils 7]), none⟩,
  ⟨(some 5), .mv (.c (.int .i64 (0))), none⟩]
def d58_0 : Option (List (List Nat)) := none
def l58_0 : List Nat := []
theorem cd58_0 : dOk d58_0 g58_0 l58_0 = true := by kernel_rfl
def g58_1 : List G := [⟨(some 9), .ld (some 7) (.t 2), none⟩,
  ⟨(some 10), .mv (.t 1), none⟩,
  ⟨(some 11), .call 92 [(.t 9), (.t 10)], none⟩,
  ⟨(some 6), .mv (.t 11), none⟩]
def d58_1 : Option (List (List Nat)) := none
def l58_1 : List Nat := []
theorem cd58_1 : dOk d58_1 g58_1 l58_1 = true := by kernel_rfl
def g58_2 : List G := [⟨(some 12), .mv (.t 6), none⟩,
  ⟨(some 13), .bin .neq (.t 12) (.c (.int .i64 (0))), none⟩]
def d58_2 : Option (List (List Nat)) := none
def l58_2 : List Nat := []
theorem cd58_2 : dOk d58_2 g58_2 l58_2 = true := by kernel_rfl
def g58_3 : List G := [⟨(some 14), .bld [.agg [.int .i64 (0), .int .i64 (0), .int .i64 (0), .int .i64 (0), .int .i64 (0)], .int .i64 (0), .nils 7] [], none⟩,
  ⟨(some 15), .mv (.t 6), none⟩,
  ⟨none, .st (some 7) (.t 4) (.t 14), none⟩,
  ⟨(some 5), .mv (.t 15), none⟩]
def d58_3 : Option (List (List Nat)) := none
def l58_3 : List Nat := []
theorem cd58_3 : dOk d58_3 g58_3 l58_3 = true := by kernel_rfl
def g58_4 : List G := [⟨(some 16), .ld (some 7) (.t 2), none⟩,
  ⟨(some 17), .mv (.t 1), none⟩,
  ⟨(some 18), .call 80 [(.t 16), (.t 17)], none⟩,
  ⟨(some 19), .bin .geq (.t 18) (.c (.int .i64 (0))), none⟩]
def d58_4 : Option (List (List Nat)) := none
def l58_4 : List Nat := []
theorem cd58_4 : dOk d58_4 g58_4 l58_4 = true := by kernel_rfl
def g58_5 : List G := [⟨(some 20), .bld [.agg [.int .i64 (0), .int .i64 (0), .int .i64 (0), .int .i64 (0), .int .i64 (0)], .int .i64 (0), .nils 7] [], none⟩,
  ⟨none, .st (some 7) (.t 4) (.t 20), none⟩,
  ⟨(some 5), .mv (.c (.int .i64 (15))), none⟩]
def d58_5 : Option (List (List Nat)) := none
def l58_5 : List Nat := []
theorem cd58_5 : dOk d58_5 g58_5 l58_5 = true := by kernel_rfl
def g58_6 : List G := [⟨(some 22), .ld (some 7) (.t 2), none⟩,
  ⟨(some 23), .call 56 [(.t 22)], none⟩,
  ⟨(some 21), .mv (.t 23), none⟩,
  ⟨(some 24), .ext (.t 21) 0, none⟩,
  ⟨(some 25), .ext (.t 21) 1, none⟩,
  ⟨(some 7), .alloc (.agg [.int .i64 (0), .int .i64 (0), .int .i64 (0), .int .i64 (0), .int .i64 (0), .int .i64 (0)]), none⟩,
  ⟨none, .st (some 6) (.t 7) (.t 24), none⟩,
  ⟨(some 8), .mv (.t 25), none⟩]
def d58_6 : Option (List (List Nat)) := none
def l58_6 : List Nat := []
theorem cd58_6 : dOk d58_6 g58_6 l58_6 = true := by kernel_rfl
def g58_7 : List G := [⟨(some 26), .mv (.t 8), none⟩,
  ⟨(some 27), .bin .neq (.t 26) (.c (.int .i64 (0))), none⟩]
def d58_7 : Option (List (List Nat)) := none
def l58_7 : List Nat := []
theorem cd58_7 : dOk d58_7 g58_7 l58_7 = true := by kernel_rfl
def g58_8 : List G := [⟨(some 28), .bld [.agg [.int .i64 (0), .int .i64 (0), .int .i64 (0), .int .i64 (0), .int .i64 (0)], .int .i64 (0), .nils 7] [], none⟩,
  ⟨(some 29), .mv (.t 8), none⟩,
  ⟨none, .st (some 7) (.t 4) (.t 28), none⟩,
  ⟨(some 5), .mv (.t 29), none⟩]
def d58_8 : Option (List (List Nat)) := none
def l58_8 : List Nat := []
theorem cd58_8 : dOk d58_8 g58_8 l58_8 = true := by kernel_rfl
def g58_9 : List G := [⟨(some 30), .ld (some 7) (.t 2), none⟩,
  ⟨(some 31), .mv (.t 1), none⟩,
  ⟨(some 32), .ld (some 6) (.t 7), none⟩,
  ⟨(some 33), .bld [.int .i64 (0), .agg [.int .i64 (0), .int .i64 (0), .int .i64 (0), .int .i64 (0), .int .i64 (0), .int .i64 (0)]] [(0, (.t 31)), (1, (.t 32))], none⟩,
  ⟨(some 34), .call 103 [(.t 30), (.t 33)], none⟩,
  ⟨none, .st (some 7) (.t 4) (.t 34), none⟩,
  ⟨(some 5), .mv (.c (.int .i64 (0))), none⟩]
def d58_9 : Option (List (List Nat)) := none
def l58_9 : List Nat := []
theorem cd58_9 : dOk d58_9 g58_9 l58_9 = true := by kernel_rfl
def c58 : AC := (.seq (.reg d58_0 g58_0) (.seq (.reg d58_1 g58_1) (.seq (.seq (.reg d58_2 g58_2) (.cond (.t 13) (.seq (.reg d58_3 g58_3) .ret) .skip)) (.seq (.seq (.reg d58_4 g58_4) (.cond (.t 19) (.seq (.reg d58_5 g58_5) .ret) .skip)) (.seq (.reg d58_6 g58_6) (.seq (.seq (.reg d58_7 g58_7) (.cond (.t 27) (.seq (.reg d58_8 g58_8) .ret) .skip)) (.seq (.reg d58_9 g58_9) .ret)))))))
def r58 : List RV := [.cell 4 (some 7), .tmp 5]
theorem cc58 : (Try.f58.body.bind (cCode Try.prog Try.f58.ntmps)) = some c58 := by kernel_rfl
theorem cr58 : cRes Try.prog Try.f58.results.toList = some r58 := by kernel_rfl
theorem ca58 : callable Try.prog 58 = true := by kernel_rfl
def g59_0 : List G := [⟨(some 2), .box (.t 0), none⟩,
  ⟨(some 3), .box (.t 1), none⟩,
  ⟨(some 4), .alloc (.agg [.agg [.int .i64 (0), .int .i64 (0), .int .i64 (0), .int .i64 (0), .int .i64 (0)], .int .i64 (0), .nils 7]), none⟩,
  ⟨(some 5), .mv (.c (.int .i64 (0))), none⟩]
def d59_0 : Option (List (List Nat)) := none
def l59_0 : List Nat := []
theorem cd59_0 : dOk d59_0 g59_0 l59_0 = true := by kernel_rfl
def g59_1 : List G := [⟨(some 9), .ld (some 7) (.t 2), none⟩,
  ⟨(some 10), .fa 0 0 (.t 3), none⟩,
  ⟨(some 11), .ld none (.t 10), none⟩,
  ⟨(some 12), .call 90 [(.t 9), (.t 11)], none⟩,
  ⟨(some 6), .mv (.t 12), none⟩]
def d59_1 : Option (List (List Nat)) := none
def l59_1 : List Nat := []
theorem cd59_1 : dOk d59_1 g59_1 l59_1 = true := by kernel_rfl
def g59_2 : List G := [⟨(some 13), .mv (.t 6), none⟩,
  ⟨(some 14), .bin .neq (.t 13) (.c (.int .i64 (0))), none⟩]
def d59_2 : Option (List (List Nat)) := none
def l59_2 : List Nat := []
theorem cd59_2 : dOk d59_2 g59_2 l59_2 = true := by kernel_rfl
def g59_3 : List G := [⟨(some 15), .bld [.agg [.int .i64 (0), .int .i64 (0), .int .i64 (0), .int .i64 (0), .int .i64 (0)], .int .i64 (0), .nils 7] [], none⟩,
  ⟨(some 16), .mv (.t 6), none⟩,
  ⟨none, .st (some 7) (.t 4) (.t 15), none⟩,
  ⟨(some 5), .mv (.t 16), none⟩]
def d59_3 : Option (List (List Nat)) := none
def l59_3 : List Nat := []
theorem cd59_3 : dOk d59_3 g59_3 l59_3 = true := by kernel_rfl
def g59_4 : List G := [⟨(some 18), .ld (some 7) (.t 2), none⟩,
  ⟨(some 19), .fa 0 0 (.t 3), none⟩,
  ⟨(some 20), .ld none (.t 19), none⟩,
  ⟨(some 21), .call 91 [(.t 18), (.t 20)], none⟩,
  ⟨(some 17), .mv (.t 21), none⟩,
  ⟨(some 22), .ext (.t 17) 0, none⟩,
  ⟨(some 23), .ext (.t 17) 1, none⟩,
  ⟨(some 7), .mv (.t 22), none⟩,
  ⟨(some 8), .mv (.t 23), none⟩]
def d59_4 : Option (List (List Nat)) := none
def l59_4 : List Nat := []
theorem cd59_4 : dOk d59_4 g59_4 l59_4 = true := by kernel_rfl
def g59_5 : List G := [⟨(some 25), .mv (.t 8), none⟩,
  ⟨(some 24), .mv (.t 25), none⟩]
def d59_5 : Option (List (List Nat)) := none
def l59_5 : List Nat := []
theorem cd59_5 : dOk d59_5 g59_5 l59_5 = true := by kernel_rfl
def g59_6 : List G := [⟨(some 26), .bld [.agg [.int .i64 (0), .int .i64 (0), .int .i64 (0), .int .i64 (0), .int .i64 (0)], .int .i64 (0), .nils 7] [], none⟩,
  ⟨none, .st (some 7) (.t 4) (.t 26), none⟩,
  ⟨(some 5), .mv (.c (.int .i64 (15))), none⟩]
def d59_6 : Option (List (List Nat)) := none
def l59_6 : List Nat := []
theorem cd59_6 : dOk d59_6 g59_6 l59_6 = true := by kernel_rfl
def g59_7 : List G := [⟨(some 28), .fa 1 1 (.t 3), none⟩,
  ⟨(some 29), .ld (some 6) (.t 28), none⟩,
  ⟨(some 30), .call 93 [(.t 29)], none⟩,
  ⟨(some 31), .un .not (.t 30), none⟩,
  ⟨(some 27), .mv (.t 31), none⟩]
def d59_7 : Option (List (List Nat)) := none
def l59_7 : List Nat := []
theorem cd59_7 : dOk d59_7 g59_7 l59_7 = true := by kernel_rfl
def g59_8 : List G := [⟨(some 32), .bld [.agg [.int .i64 (0), .int .i64 (0), .int .i64 (0), .int .i64 (0), .int .i64 (0)], .int .i64 (0), .nils 7] [], none⟩,
  ⟨none, .st (some 7) (.t 4) (.t 32), none⟩,
  ⟨(some 5), .mv (.c (.int .i64 (10))), none⟩]
def d59_8 : Option (List (List Nat)) := none
def l59_8 : List Nat := []
theorem cd59_8 : dOk d59_8 g59_8 l59_8 = true := by kernel_rfl
def g59_9 : List G := [⟨(some 34), .fa 2 6 (.t 2), none⟩,
  ⟨(some 35), .ld none (.t 34), none⟩,
  ⟨(some 36), .len (.t 35), none⟩,
  ⟨(some 37), .bin .eql (.t 36) (.c (.int .i64 (40))), none⟩,
  ⟨(some 33), .mv (.t 37), none⟩]
def d59_9 : Option (List (List Nat)) := none
def l59_9 : List Nat := []
theorem cd59_9 : dOk d59_9 g59_9 l59_9 = true := by kernel_rfl
def g59_10 : List G := [⟨(some 38), .bld [.agg [.int .i64 (0), .int .i64 (0), .int .i64 (0), .int .i64 (0), .int .i64 (0)], .int .i64 (0), .nils 7] [], none⟩,
  ⟨none, .st (some 7) (.t 4) (.t 38), none⟩,
  ⟨(some 5), .mv (.c (.int .i64 (16))), none⟩]
def d59_10 : Option (List (List Nat)) := none
def l59_10 : List Nat := []
theorem cd59_10 : dOk d59_10 g59_10 l59_10 = true := by kernel_rfl
def g59_11 : List G := [⟨(some 40), .ld (some 7) (.t 2), none⟩,
  ⟨(some 41), .fa 2 6 (.t 2), none⟩,
  ⟨(some 42), .ld none (.t 41), none⟩,
  ⟨(some 43), .fa 1 1 (.t 3), none⟩,
  ⟨(some 44), .ld (some 6) (.t 43), none⟩,
  ⟨(some 45), .call 98 [(.t 40), (.t 42), (.t 44)], none⟩,
  ⟨(some 46), .un .not (.t 45), none⟩,
  ⟨(some 39), .mv (.t 46), none⟩]
def d59_11 : Option (List (List Nat)) := none
def l59_11 : List Nat := []
theorem cd59_11 : dOk d59_11 g59_11 l59_11 = true := by kernel_rfl
def g59_12 : List G := [⟨(some 47), .bld [.agg [.int .i64 (0), .int .i64 (0), .int .i64 (0), .int .i64 (0), .int .i64 (0)], .int .i64 (0), .nils 7] [], none⟩,
  ⟨none, .st (some 7) (.t 4) (.t 47), none⟩,
  ⟨(some 5), .mv (.c (.int .i64 (19))), none⟩]
def d59_12 : Option (List (List Nat)) := none
def l59_12 : List Nat := []
theorem cd59_12 : dOk d59_12 g59_12 l59_12 = true := by kernel_rfl
def g59_13 : List G := [⟨(some 48), .ld (some 7) (.t 2), none⟩,
  ⟨(some 49), .ld (some 7) (.t 3), none⟩,
  ⟨(some 50), .call 102 [(.t 48), (.t 49)], none⟩,
  ⟨none, .st (some 7) (.t 4) (.t 50), none⟩,
  ⟨(some 5), .mv (.c (.int .i64 (0))), none⟩]
def d59_13 : Option (List (List Nat)) := none
def l59_13 : List Nat := []
theorem cd59_13 : dOk d59_13 g59_13 l59_13 = true := by kernel_rfl
def c59 : AC := (.seq (.reg d59_0 g59_0) (.seq (.seq (.reg d59_1 g59_1) (.seq (.reg d59_2 g59_2) (.cond (.t 14) (.seq (.reg d59_3 g59_3) .ret) .skip))) (.seq (.reg d59_4 g59_4) (.seq (.block 0 (.seq (.reg d59_5 g59_5) (.cond (.t 24) (.seq (.reg d59_6 g59_6) .ret) (.seq (.reg d59_7 g59_7) (.cond (.t 27) (.seq (.reg d59_8 g59_8) .ret) (.seq (.reg d59_9 g59_9) (.cond (.t 33) (.seq (.reg d59_10 g59_10) .ret) (.seq (.reg d59_11 g59_11) (.cond (.t 39) (.seq (.reg d59_12 g59_12) .ret) .skip))))))))) (.seq (.reg d59_13 g59_13) .ret)))))
def r59 : List RV := [.cell 4 (some 7), .tmp 5]
theorem cc59 : (Try.f59.body.bind (cCode Try.prog Try.f59.ntmps)) = some c59 := by kernel_rfl
theorem cr59 : cRes Try.prog Try.f59.results.toList = some r59 := by kernel_rfl
theorem ca59 : callable Try.prog 59 = true := by kernel_rfl
def g60_0 : List G := [⟨(some 2), .box (.t 0), none⟩,
  ⟨(some 3), .box (.t 1), none⟩,
  ⟨(some 4), .alloc (.agg [.agg [.int .i64 (0), .int .i64 (0), .int .i64 (0), .int .i64 (0), .int .i64 (0)], .int .i64 (0), .nils 7]), none⟩,
  ⟨(some 5), .mv (.c (.int .i64 (0))), none⟩]
def d60_0 : Option (List (List Nat)) := none
def l60_0 : List Nat := []
theorem cd60_0 : dOk d60_0 g60_0 l60_0 = true := by kernel_rfl
def g60_1 : List G := [⟨(some 7), .ld (some 7) (.t 2), none⟩,
  ⟨(some 8), .fa 0 0 (.t 3), none⟩,
  ⟨(some 9), .ld none (.t 8), none⟩,
  ⟨(some 10), .call 92 [(.t 7), (.t 9)], none⟩,
  ⟨(some 6), .mv (.t 10), none⟩]
def d60_1 : Option (List (List Nat)) := none
def l60_1 : List Nat := []
theorem cd60_1 : dOk d60_1 g60_1 l60_1 = true := by kernel_rfl
def g60_2 : List G := [⟨(some 11), .mv (.t 6), none⟩,
  ⟨(some 12), .bin .neq (.t 11) (.c (.int .i64 (0))), none⟩]
def d60_2 : Option (List (List Nat)) := none
def l60_2 : List Nat := []
theorem cd60_2 : dOk d60_2 g60_2 l60_2 = true := by kernel_rfl
def g60_3 : List G := [⟨(some 13), .bld [.agg [.int .i64 (0), .int .i64 (0), .int .i64 (0), .int .i64 (0), .int .i64 (0)], .int .i64 (0), .nils 7] [], none⟩,
  ⟨(some 14), .mv (.t 6), none⟩,
  ⟨none, .st (some 7) (.t 4) (.t 13), none⟩,
  ⟨(some 5), .mv (.t 14), none⟩]
def d60_3 : Option (List (List Nat)) := none
def l60_3 : List Nat := []
theorem cd60_3 : dOk d60_3 g60_3 l60_3 = true := by kernel_rfl
def g60_4 : List G := [⟨(some 15), .ld (some 7) (.t 2), none⟩,
  ⟨(some 16), .fa 0 0 (.t 3), none⟩,
  ⟨(some 17), .ld none (.t 16), none⟩,
  ⟨(some 18), .call 80 [(.t 15), (.t 17)], none⟩,
  ⟨(some 19), .bin .geq (.t 18) (.c (.int .i64 (0))), none⟩]
def d60_4 : Option (List (List Nat)) := none
def l60_4 : List Nat := []
theorem cd60_4 : dOk d60_4 g60_4 l60_4 = true := by kernel_rfl
def g60_5 : List G := [⟨(some 20), .bld [.agg [.int .i64 (0), .int .i64 (0), .int .i64 (0), .int .i64 (0), .int .i64 (0)], .int .i64 (0), .nils 7] [], none⟩,
  ⟨none, .st (some 7) (.t 4) (.t 20), none⟩,
  ⟨(some 5), .mv (.c (.int .i64 (15))), none⟩]
def d60_5 : Option (List (List Nat)) := none
def l60_5 : List Nat := []
theorem cd60_5 : dOk d60_5 g60_5 l60_5 = true := by kernel_rfl
def g60_6 : List G := [⟨(some 21), .fa 1 1 (.t 3), none⟩,
  ⟨(some 22), .ld (some 6) (.t 21), none⟩,
  ⟨(some 23), .call 42 [(.t 22)], none⟩,
  ⟨(some 24), .bin .neq (.t 23) (.c (.int .i64 (0))), none⟩]
def d60_6 : Option (List (List Nat)) := none
def l60_6 : List Nat := []
theorem cd60_6 : dOk d60_6 g60_6 l60_6 = true := by kernel_rfl
def g60_7 : List G := [⟨(some 25), .bld [.agg [.int .i64 (0), .int .i64 (0), .int .i64 (0), .int .i64 (0), .int .i64 (0)], .int .i64 (0), .nils 7] [], none⟩,
  ⟨none, .st (some 7) (.t 4) (.t 25), none⟩,
  ⟨(some 5), .mv (.c (.int .i64 (10))), none⟩]
def d60_7 : Option (List (List Nat)) := none
def l60_7 : List Nat := []
theorem cd60_7 : dOk d60_7 g60_7 l60_7 = true := by kernel_rfl
def g60_8 : List G := [⟨(some 26), .fa 2 6 (.t 2), none⟩,
  ⟨(some 27), .ld none (.t 26), none⟩,
  ⟨(some 28), .len (.t 27), none⟩,
  ⟨(some 29), .bin .eql (.t 28) (.c (.int .i64 (40))), none⟩]
def d60_8 : Option (List (List Nat)) := none
def l60_8 : List Nat := []
theorem cd60_8 : dOk d60_8 g60_8 l60_8 = true := by kernel_rfl
def g60_9 : List G := [⟨(some 30), .bld [.agg [.int .i64 (0), .int .i64 (0), .int .i64 (0), .int .i64 (0), .int .i64 (0)], .int .i64 (0), .nils 7] [], none⟩,
  ⟨none, .st (some 7) (.t 4) (.t 30), none⟩,
  ⟨(some 5), .mv (.c (.int .i64 (16))), none⟩]
def d60_9 : Option (List (List Nat)) := none
def l60_9 : List Nat := []
theorem cd60_9 : dOk d60_9 g60_9 l60_9 = true := by kernel_rfl
def g60_10 : List G := [⟨(some 31), .ld (some 7) (.t 2), none⟩,
  ⟨(some 32), .fa 1 1 (.t 3), none⟩,
  ⟨(some 33), .ld (some 6) (.t 32), none⟩,
  ⟨(some 34), .call 83 [(.t 31), (.t 33)], none⟩]
def d60_10 : Option (List (List Nat)) := none
def l60_10 : List Nat := []
theorem cd60_10 : dOk d60_10 g60_10 l60_10 = true := by kernel_rfl
def g60_11 : List G := [⟨(some 35), .bld [.agg [.int .i64 (0), .int .i64 (0), .int .i64 (0), .int .i64 (0), .int .i64 (0)], .int .i64 (0), .nils 7] [], none⟩,
  ⟨none, .st (some 7) (.t 4) (.t 35), none⟩,
  ⟨(some 5), .mv (.c (.int .i64 (19))), none⟩]
def d60_11 : Option (List (List Nat)) := none
def l60_11 : List Nat := []
theorem cd60_11 : dOk d60_11 g60_11 l60_11 = true := by kernel_rfl
def g60_12 : List G := [⟨(some 36), .ld (some 7) (.t 2), none⟩,
  ⟨(some 37), .ld (some 7) (.t 3), none⟩,
  ⟨(some 38), .call 103 [(.t 36), (.t 37)], none⟩,
  ⟨none, .st (some 7) (.t 4) (.t 38), none⟩,
  ⟨(some 5), .mv (.c (.int .i64 (0))), none⟩]
def d60_12 : Option (List (List Nat)) := none
def l60_12 : List Nat := []
theorem cd60_12 : dOk d60_12 g60_12 l60_12 = true := by kernel_rfl
def c60 : AC := (.seq (.reg d60_0 g60_0) (.seq (.reg d60_1 g60_1) (.seq (.seq (.reg d60_2 g60_2) (.cond (.t 12) (.seq (.reg d60_3 g60_3) .ret) .skip)) (.seq (.seq (.reg d60_4 g60_4) (.cond (.t 19) (.seq (.reg d60_5 g60_5) .ret) .skip)) (.seq (.seq (.reg d60_6 g60_6) (.cond (.t 24) (.seq (.reg d60_7 g60_7) .ret) .skip)) (.seq (.seq (.reg d60_8 g60_8) (.cond (.t 29) (.seq (.reg d60_9 g60_9) .ret) .skip)) (.seq (.seq (.reg d60_10 g60_10) (.cond (.t 34) (.seq (.reg d60_11 g60_11) .ret) .skip)) (.seq (.reg d60_12 g60_12) .ret))))))))
def r60 : List RV := [.cell 4 (some 7), .tmp 5]
theorem cc60 : (Try.f60.body.bind (cCode Try.prog Try.f60.ntmps)) = some c60 := by kernel_rfl
theorem cr60 : cRes Try.prog Try.f60.results.toList = some r60 := by kernel_rfl
theorem ca60 : callable Try.prog 60 = true := by kernel_rfl
def g61_0 : List G := [⟨(some 2), .box (.t 0), none⟩,
  ⟨(some 4), .alloc (.agg [.agg [.int .i64 (0), .int .i64 (0), .int .i64 (0), .int .i64 (0), .int .i64 (0)], .int .i64 (0), .nils 7]), none⟩,
  ⟨(some 5), .mv (.c (.int .i64 (0))), none⟩]
def d61_0 : Option (List (List Nat)) := none
def l61_0 : List Nat := []
theorem cd61_0 : dOk d61_0 g61_0 l61_0 = true := by kernel_rfl
def g61_1 : List G := [⟨(some 9), .ld (some 7) (.t 2), none⟩,
  ⟨(some 10), .mv (.t 1), none⟩,
  ⟨(some 11), .call 90 [(.t 9), (.t 10)], none⟩,
  ⟨(some 6), .mv (.t 11), none⟩]
def d61_1 : Option (List (List Nat)) := none
def l61_1 : List Nat := []
theorem cd61_1 : dOk d61_1 g61_1 l61_1 = true := by kernel_rfl
def g61_2 : List G := [⟨(some 12), .mv (.t 6), none⟩,
  ⟨(some 13), .bin .neq (.t 12) (.c (.int .i64 (0))), none⟩]
def d61_2 : Option (List (List Nat)) := none
def l61_2 : List Nat := []
theorem cd61_2 : dOk d61_2 g61_2 l61_2 = true := by kernel_rfl
def g61_3 : List G := [⟨(some 14), .bld [.agg [.int .i64 (0), .int .i64 (0), .int .i64 (0), .int .i64 (0), .int .i64 (0)], .int .i64 (0), .nils 7] [], none⟩,
  ⟨(some 15), .mv (.t 6), none⟩,
  ⟨none, .st (some 7) (.t 4) (.t 14), none⟩,
  ⟨(some 5), .mv (.t 15), none⟩]
def d61_3 : Option (List (List Nat)) := none
def l61_3 : List Nat := []
theorem cd61_3 : dOk d61_3 g61_3 l61_3 = true := by kernel_rfl
def g61_4 : List G := [⟨(some 17), .ld (some 7) (.t 2), none⟩,
  ⟨(some 18), .mv (.t 1), none⟩,
  ⟨(some 19), .call 91 [(.t 17), (.t 18)], none⟩,
  ⟨(some 16), .mv (.t 19), none⟩,
  ⟨(some 20), .ext (.t 16) 0, none⟩,
  ⟨(some 21), .ext (.t 16) 1, none⟩,
  ⟨(some 7), .mv (.t 20), none⟩,
  ⟨(some 8), .mv (.t 21), none⟩]
def d61_4 : Option (List (List Nat)) := none
def l61_4 : List Nat := []
theorem cd61_4 : dOk d61_4 g61_4 l61_4 = true := by kernel_rfl
def g61_5 : List G := [⟨(some 22), .mv (.t 8), none⟩,
  ⟨(some 23), .un .not (.t 22), none⟩]
def d61_5 : Option (List (List Nat)) := none
def l61_5 : List Nat := []
theorem cd61_5 : dOk d61_5 g61_5 l61_5 = true := by kernel_rfl
def g61_6 : List G := [⟨(some 24), .bld [.agg [.int .i64 (0), .int .i64 (0), .int .i64 (0), .int .i64 (0), .int .i64 (0)], .int .i64 (0), .nils 7] [], none⟩,
  ⟨none, .st (some 7) (.t 4) (.t 24), none⟩,
  ⟨(some 5), .mv (.c (.int .i64 (3))), none⟩]
def d61_6 : Option (List (List Nat)) := none
def l61_6 : List Nat := []
theorem cd61_6 : dOk d61_6 g61_6 l61_6 = true := by kernel_rfl
def g61_7 : List G := [⟨(some 25), .fa 2 6 (.t 2), none⟩,
  ⟨(some 26), .ld none (.t 25), none⟩,
  ⟨(some 27), .call 85 [(.t 26)], none⟩,
  ⟨(some 28), .mv (.t 7), none⟩,
  ⟨(some 29), .mv (.t 7), none⟩,
  ⟨(some 30), .bin .add (.t 29) (.c (.int .i64 (1))), none⟩,
  ⟨(some 31), .call 104 [(.t 27), (.t 28), (.t 30)], none⟩,
  ⟨(some 32), .fa 2 6 (.t 2), none⟩,
  ⟨none, .st none (.t 32) (.t 31), none⟩]
def d61_7 : Option (List (List Nat)) := none
def l61_7 : List Nat := []
theorem cd61_7 : dOk d61_7 g61_7 l61_7 = true := by kernel_rfl
def g61_8 : List G := [⟨(some 33), .ld (some 7) (.t 2), none⟩,
  ⟨none, .st (some 7) (.t 4) (.t 33), none⟩,
  ⟨(some 5), .mv (.c (.int .i64 (0))), none⟩]
def d61_8 : Option (List (List Nat)) := none
def l61_8 : List Nat := []
theorem cd61_8 : dOk d61_8 g61_8 l61_8 = true := by kernel_rfl
def c61 : AC := (.seq (.reg d61_0 g61_0) (.seq (.seq (.reg d61_1 g61_1) (.seq (.reg d61_2 g61_2) (.cond (.t 13) (.seq (.reg d61_3 g61_3) .ret) .skip))) (.seq (.reg d61_4 g61_4) (.seq (.seq (.reg d61_5 g61_5) (.cond (.t 23) (.seq (.reg d61_6 g61_6) .ret) .skip)) (.seq (.reg d61_7 g61_7) (.seq (.reg d61_8 g61_8) .ret))))))
def r61 : List RV := [.cell 4 (some 7), .tmp 5]
theorem cc61 : (Try.f61.body.bind (cCode Try.prog Try.f61.ntmps)) = some c61 := by kernel_rfl
theorem cr61 : cRes Try.prog Try.f61.results.toList = some r61 := by kernel_rfl
theorem ca61 : callable Try.prog 61 = true := by kernel_rfl
def g62_0 : List G := [⟨(some 2), .box (.t 0), none⟩,
  ⟨(some 4), .alloc (.agg [.agg [.int .i64 (0), .int .i64 (0), .int .i64 (0), .int .i64 (0), .int .i64 (0)], .int .i64 (0), .nils 7]), none⟩,
  ⟨(some 5), .mv (.c (.int .i64 (0))), none⟩]
def d62_0 : Option (List (List Nat)) := none
def l62_0 : List Nat := []
theorem cd62_0 : dOk d62_0 g62_0 l62_0 = true := by kernel_rfl
def g62_1 : List G := [⟨(some 10), .ld (some 7) (.t 2), none⟩,
  ⟨(some 11), .mv (.t 1), none⟩,
  ⟨(some 12), .call 92 [(.t 10), (.t 11)], none⟩,
  ⟨(some 6), .mv (.t 12), none⟩]
def d62_1 : Option (List (List Nat)) := none
def l62_1 : List Nat := []
theorem cd62_1 : dOk d62_1 g62_1 l62_1 = true := by kernel_rfl
def g62_2 : List G := [⟨(some 13), .mv (.t 6), none⟩,
  ⟨(some 14), .bin .neq (.t 13) (.c (.int .i64 (0))), none⟩]
def d62_2 : Option (List (List Nat)) := none
def l62_2 : List Nat := []
theorem cd62_2 : dOk d62_2 g62_2 l62_2 = true := by kernel_rfl
def g62_3 : List G := [⟨(some 15), .bld [.agg [.int .i64 (0), .int .i64 (0), .int .i64 (0), .int .i64 (0), .int .i64 (0)], .int .i64 (0), .nils 7] [], none⟩,
  ⟨(some 16), .mv (.t 6), none⟩,
  ⟨none, .st (some 7) (.t 4) (.t 15), none⟩,
  ⟨(some 5), .mv (.t 16), none⟩]
def d62_3 : Option (List (List Nat)) := none
def l62_3 : List Nat := []
theorem cd62_3 : dOk d62_3 g62_3 l62_3 = true := by kernel_rfl
def g62_4 : List G := [⟨(some 17), .ld (some 7) (.t 2), none⟩,
  ⟨(some 18), .mv (.t 1), none⟩,
  ⟨(some 19), .call 80 [(.t 17), (.t 18)], none⟩,
  ⟨(some 7), .mv (.t 19), none⟩]
def d62_4 : Option (List (List Nat)) := none
def l62_4 : List Nat := []
theorem cd62_4 : dOk d62_4 g62_4 l62_4 = true := by kernel_rfl
def g62_5 : List G := [⟨(some 20), .mv (.t 7), none⟩,
  ⟨(some 21), .bin .lss (.t 20) (.c (.int .i64 (0))), none⟩]
def d62_5 : Option (List (List Nat)) := none
def l62_5 : List Nat := []
theorem cd62_5 : dOk d62_5 g62_5 l62_5 = true := by kernel_rfl
def g62_6 : List G := [⟨(some 22), .bld [.agg [.int .i64 (0), .int .i64 (0), .int .i64 (0), .int .i64 (0), .int .i64 (0)], .int .i64 (0), .nils 7] [], none⟩,
  ⟨none, .st (some 7) (.t 4) (.t 22), none⟩,
  ⟨(some 5), .mv (.c (.int .i64 (3))), none⟩]
def d62_6 : Option (List (List Nat)) := none
def l62_6 : List Nat := []
theorem cd62_6 : dOk d62_6 g62_6 l62_6 = true := by kernel_rfl
def g62_7 : List G := [⟨(some 23), .fa 0 0 (.t 2), none⟩,
  ⟨(some 24), .ld (some 5) (.t 23), none⟩,
  ⟨(some 25), .fa 1 5 (.t 2), none⟩,
  ⟨(some 26), .ld none (.t 25), none⟩,
  ⟨(some 27), .bld [.agg [.int .i64 (0), .int .i64 (0), .int .i64 (0), .int .i64 (0), .int .i64 (0)], .int .i64 (0), .nils 7] [(0, (.t 24)), (1, (.t 26))], none⟩,
  ⟨(some 8), .alloc (.agg [.agg [.int .i64 (0), .int .i64 (0), .int .i64 (0), .int .i64 (0), .int .i64 (0)], .int .i64 (0), .nils 7]), none⟩,
  ⟨none, .st (some 7) (.t 8) (.t 27), none⟩]
def d62_7 : Option (List (List Nat)) := none
def l62_7 : List Nat := []
theorem cd62_7 : dOk d62_7 g62_7 l62_7 = true := by kernel_rfl
def g62_8 : List G := [⟨(some 9), .mv (.c (.int .i64 (0))), none⟩]
def d62_8 : Option (List (List Nat)) := none
def l62_8 : List Nat := []
theorem cd62_8 : dOk d62_8 g62_8 l62_8 = true := by kernel_rfl
def g62_9 : List G := [⟨(some 28), .mv (.t 9), none⟩,
  ⟨(some 29), .fa 2 6 (.t 2), none⟩,
  ⟨(some 30), .ld none (.t 29), none⟩,
  ⟨(some 31), .len (.t 30), none⟩,
  ⟨(some 32), .bin .lss (.t 28) (.t 31), none⟩]
def d62_9 : Option (List (List Nat)) := none
def l62_9 : List Nat := []
theorem cd62_9 : dOk d62_9 g62_9 l62_9 = true := by kernel_rfl
def g62_10 : List G := [⟨(some 35), .mv (.t 9), none⟩,
  ⟨(some 36), .mv (.t 7), none⟩,
  ⟨(some 37), .bin .neq (.t 35) (.t 36), none⟩]
def d62_10 : Option (List (List Nat)) := none
def l62_10 : List Nat := []
theorem cd62_10 : dOk d62_10 g62_10 l62_10 = true := by kernel_rfl
def g62_11 : List G := [⟨(some 38), .fa 2 6 (.t 8), none⟩,
  ⟨(some 39), .ld none (.t 38), none⟩,
  ⟨(some 40), .fa 2 6 (.t 2), none⟩,
  ⟨(some 41), .ld none (.t 40), none⟩,
  ⟨(some 42), .mv (.t 9), none⟩,
  ⟨(some 43), .is 7 (.t 41) (.t 42), none⟩,
  ⟨(some 44), .ld (some 7) (.t 43), none⟩,
  ⟨(some 45), .bs 7 [(.t 44)], none⟩,
  ⟨(some 46), .app 43 7 56 (.agg [.int .i64 (0), .agg [.int .i64 (0), .int .i64 (0), .int .i64 (0), .int .i64 (0), .int .i64 (0), .int .i64 (0)]]) (.t 39) (.t 45), none⟩,
  ⟨(some 47), .fa 2 6 (.t 8), none⟩,
  ⟨none, .st none (.t 47) (.t 46), none⟩]
def d62_11 : Option (List (List Nat)) := (some [[], [0], [], [2], [], [3, 4], [5], [6], [1, 7], [0, 1, 2, 3, 4, 5, 6, 7, 8], [9, 8, 8, 0, 1, 2, 3, 4, 5, 6, 7, 8]])
def l62_11 : List Nat := [0, 1, 0, 4, 0, 28, 60, 124, 255, 511, 1023]
theorem cd62_11 : dOk d62_11 g62_11 l62_11 = true := by kernel_rfl
def g62_12 : List G := [⟨(some 33), .mv (.t 9), none⟩,
  ⟨(some 34), .bin .add (.t 33) (.c (.int .i64 (1))), none⟩,
  ⟨(some 9), .mv (.t 34), none⟩]
def d62_12 : Option (List (List Nat)) := none
def l62_12 : List Nat := []
theorem cd62_12 : dOk d62_12 g62_12 l62_12 = true := by kernel_rfl
def g62_13 : List G := [⟨(some 48), .ld (some 7) (.t 8), none⟩,
  ⟨none, .st (some 7) (.t 4) (.t 48), none⟩,
  ⟨(some 5), .mv (.c (.int .i64 (0))), none⟩]
def d62_13 : Option (List (List Nat)) := none
def l62_13 : List Nat := []
theorem cd62_13 : dOk d62_13 g62_13 l62_13 = true := by kernel_rfl
def c62 : AC := (.seq (.reg d62_0 g62_0) (.seq (.reg d62_1 g62_1) (.seq (.seq (.reg d62_2 g62_2) (.cond (.t 14) (.seq (.reg d62_3 g62_3) .ret) .skip)) (.seq (.reg d62_4 g62_4) (.seq (.seq (.reg d62_5 g62_5) (.cond (.t 21) (.seq (.reg d62_6 g62_6) .ret) .skip)) (.seq (.reg d62_7 g62_7) (.seq (.seq (.reg d62_8 g62_8) (.block 0 (.loop (.seq (.seq (.reg d62_9 g62_9) (.cond (.t 32) .skip (.exit 0))) (.seq (.block 1 (.seq (.reg d62_10 g62_10) (.cond (.t 37) (.reg d62_11 g62_11) .skip))) (.reg d62_12 g62_12)))))) (.seq (.reg d62_13 g62_13) .ret))))))))
def r62 : List RV := [.cell 4 (some 7), .tmp 5]
theorem cc62 : (Try.f62.body.bind (cCode Try.prog Try.f62.ntmps)) = some c62 := by kernel_rfl
theorem cr62 : cRes Try.prog Try.f62.results.toList = some r62 := by kernel_rfl
theorem ca62 : callable Try.prog 62 = true := by kernel_rfl
def g63_0 : List G := [⟨(some 2), .box (.t 0), none⟩,
  ⟨(some 3), .box (.t 1), none⟩,
  ⟨(some 4), .mv (.c (.bool false)), none⟩]
def d63_0 : Option (List (List Nat)) := none
def l63_0 : List Nat := []
theorem cd63_0 : dOk d63_0 g63_0 l63_0 = true := by kernel_rfl
def g63_1 : List G := [⟨(some 6), .fa 0 0 (.t 2), none⟩,
  ⟨(some 7), .ld (some 5) (.t 6), none⟩,
  ⟨(some 8), .fa 0 0 (.t 3), none⟩,
  ⟨(some 9), .ld (some 5) (.t 8), none⟩,
  ⟨(some 10), .eqv (.ar 5 (.i .i64)) true (.t 7) (.t 9), none⟩,
  ⟨(some 11), .mv (.t 10), none⟩,
  ⟨(some 12), .fa 1 5 (.t 2), some (11, false)⟩,
  ⟨(some 13), .ld none (.t 12), some (11, false)⟩,
  ⟨(some 14), .fa 1 5 (.t 3), some (11, false)⟩,
  ⟨(some 15), .ld none (.t 14), some (11, false)⟩,
  ⟨(some 16), .bin .neq (.t 13) (.t 15), some (11, false)⟩,
  ⟨(some 17), .pick (.t 11) (.c (.bool true)) (.t 16), none⟩,
  ⟨(some 18), .mv (.t 17), none⟩,
  ⟨(some 19), .fa 2 6 (.t 2), some (18, false)⟩,
  ⟨(some 20), .ld none (.t 19), some (18, false)⟩,
  ⟨(some 21), .len (.t 20), some (18, false)⟩,
  ⟨(some 22), .fa 2 6 (.t 3), some (18, false)⟩,
  ⟨(some 23), .ld none (.t 22), some (18, false)⟩,
  ⟨(some 24), .len (.t 23), some (18, false)⟩,
  ⟨(some 25), .bin .neq (.t 21) (.t 24), some (18, false)⟩,
  ⟨(some 26), .pick (.t 18) (.c (.bool true)) (.t 25), none⟩]
def d63_1 : Option (List (List Nat)) := none
def l63_1 : List Nat := []
theorem cd63_1 : dOk d63_1 g63_1 l63_1 = true := by kernel_rfl
def g63_2 : List G := [⟨(some 4), .mv (.c (.bool false)), none⟩]
def d63_2 : Option (List (List Nat)) := none
def l63_2 : List Nat := []
theorem cd63_2 : dOk d63_2 g63_2 l63_2 = true := by kernel_rfl
def g63_3 : List G := [⟨(some 5), .mv (.c (.int .i64 (0))), none⟩]
def d63_3 : Option (List (List Nat)) := none
def l63_3 : List Nat := []
theorem cd63_3 : dOk d63_3 g63_3 l63_3 = true := by kernel_rfl
def g63_4 : List G := [⟨(some 27), .mv (.t 5), none⟩,
  ⟨(some 28), .fa 2 6 (.t 2), none⟩,
  ⟨(some 29), .ld none (.t 28), none⟩,
  ⟨(some 30), .len (.t 29), none⟩,
  ⟨(some 31), .bin .lss (.t 27) (.t 30), none⟩]
def d63_4 : Option (List (List Nat)) := none
def l63_4 : List Nat := []
theorem cd63_4 : dOk d63_4 g63_4 l63_4 = true := by kernel_rfl
def g63_5 : List G := [⟨(some 34), .fa 2 6 (.t 2), none⟩,
  ⟨(some 35), .ld none (.t 34), none⟩,
  ⟨(some 36), .mv (.t 5), none⟩,
  ⟨(some 37), .is 7 (.t 35) (.t 36), none⟩,
  ⟨(some 38), .ld (some 7) (.t 37), none⟩,
  ⟨(some 39), .fa 2 6 (.t 3), none⟩,
  ⟨(some 40), .ld none (.t 39), none⟩,
  ⟨(some 41), .mv (.t 5), none⟩,
  ⟨(some 42), .is 7 (.t 40) (.t 41), none⟩,
  ⟨(some 43), .ld (some 7) (.t 42), none⟩,
  ⟨(some 44), .eqv (.st [(.i .i64), (.ar 6 (.i .i64))]) true (.t 38) (.t 43), none⟩]
def d63_5 : Option (List (List Nat)) := (some [[], [0], [], [1, 2], [3], [], [5], [], [6, 7], [8], [4, 9]])
def l63_5 : List Nat := [0, 1, 0, 7, 15, 0, 32, 0, 224, 480, 1023]
theorem cd63_5 : dOk d63_5 g63_5 l63_5 = true := by kernel_rfl
def g63_6 : List G := [⟨(some 4), .mv (.c (.bool false)), none⟩]
def d63_6 : Option (List (List Nat)) := none
def l63_6 : List Nat := []
theorem cd63_6 : dOk d63_6 g63_6 l63_6 = true := by kernel_rfl
def g63_7 : List G := [⟨(some 32), .mv (.t 5), none⟩,
  ⟨(some 33), .bin .add (.t 32) (.c (.int .i64 (1))), none⟩,
  ⟨(some 5), .mv (.t 33), none⟩]
def d63_7 : Option (List (List Nat)) := none
def l63_7 : List Nat := []
theorem cd63_7 : dOk d63_7 g63_7 l63_7 = true := by kernel_rfl
def g63_8 : List G := [⟨(some 4), .mv (.c (.bool true)), none⟩]
def d63_8 : Option (List (List Nat)) := none
def l63_8 : List Nat := []
theorem cd63_8 : dOk d63_8 g63_8 l63_8 = true := by kernel_rfl
def c63 : AC := (.seq (.reg d63_0 g63_0) (.seq (.seq (.reg d63_1 g63_1) (.cond (.t 26) (.seq (.reg d63_2 g63_2) .ret) .skip)) (.seq (.seq (.reg d63_3 g63_3) (.block 0 (.loop (.seq (.seq (.reg d63_4 g63_4) (.cond (.t 31) .skip (.exit 0))) (.seq (.block 1 (.seq (.reg d63_5 g63_5) (.cond (.t 44) (.seq (.reg d63_6 g63_6) .ret) .skip))) (.reg d63_7 g63_7)))))) (.seq (.reg d63_8 g63_8) .ret))))
def r63 : List RV := [.tmp 4]
theorem cc63 : (Try.f63.body.bind (cCode Try.prog Try.f63.ntmps)) = some c63 := by kernel_rfl
theorem cr63 : cRes Try.prog Try.f63.results.toList = some r63 := by kernel_rfl
theorem ca63 : callable Try.prog 63 = true := by kernel_rfl
def g64_0 : List G := [⟨(some 2), .mv (.c (.int .i64 (0))), none⟩]
def d64_0 : Option (List (List Nat)) := none
def l64_0 : List Nat := []
theorem cd64_0 : dOk d64_0 g64_0 l64_0 = true := by kernel_rfl
def g64_1 : List G := [⟨(some 5), .mv (.t 0), none⟩,
  ⟨(some 6), .len (.t 5), none⟩,
  ⟨(some 7), .mv (.c (.int .i64 (0))), none⟩]
def d64_1 : Option (List (List Nat)) := none
def l64_1 : List Nat := []
theorem cd64_1 : dOk d64_1 g64_1 l64_1 = true := by kernel_rfl
def g64_2 : List G := [⟨(some 8), .bin .lss (.t 7) (.t 6), none⟩]
def d64_2 : Option (List (List Nat)) := none
def l64_2 : List Nat := []
theorem cd64_2 : dOk d64_2 g64_2 l64_2 = true := by kernel_rfl
def g64_3 : List G := [⟨(some 9), .is 1 (.t 5) (.t 7), none⟩,
  ⟨(some 10), .ld none (.t 9), none⟩,
  ⟨(some 4), .mv (.t 10), none⟩]
def d64_3 : Option (List (List Nat)) := none
def l64_3 : List Nat := []
theorem cd64_3 : dOk d64_3 g64_3 l64_3 = true := by kernel_rfl
def g64_4 : List G := [⟨(some 11), .mv (.t 4), none⟩,
  ⟨(some 12), .bin .neq (.t 11) (.c (.int .i64 (0))), none⟩]
def d64_4 : Option (List (List Nat)) := none
def l64_4 : List Nat := []
theorem cd64_4 : dOk d64_4 g64_4 l64_4 = true := by kernel_rfl
def g64_5 : List G := [⟨(some 13), .mv (.t 4), none⟩,
  ⟨(some 2), .mv (.t 13), none⟩]
def d64_5 : Option (List (List Nat)) := none
def l64_5 : List Nat := []
theorem cd64_5 : dOk d64_5 g64_5 l64_5 = true := by kernel_rfl
def g64_6 : List G := [⟨(some 14), .bin .add (.t 7) (.c (.int .i64 (1))), none⟩,
  ⟨(some 7), .mv (.t 14), none⟩]
def d64_6 : Option (List (List Nat)) := none
def l64_6 : List Nat := []
theorem cd64_6 : dOk d64_6 g64_6 l64_6 = true := by kernel_rfl
def g64_7 : List G := [⟨(some 2), .mv (.c (.int .i64 (0))), none⟩]
def d64_7 : Option (List (List Nat)) := none
def l64_7 : List Nat := []
theorem cd64_7 : dOk d64_7 g64_7 l64_7 = true := by kernel_rfl
def c64 : AC := (.seq (.reg d64_0 g64_0) (.seq (.seq (.reg d64_1 g64_1) (.block 0 (.loop (.seq (.reg d64_2 g64_2) (.seq (.cond (.t 8) .skip (.exit 0)) (.seq (.block 1 (.seq (.reg d64_3 g64_3) (.seq (.reg d64_4 g64_4) (.cond (.t 12) (.seq (.reg d64_5 g64_5) .ret) .skip)))) (.reg d64_6 g64_6))))))) (.seq (.reg d64_7 g64_7) .ret)))
def r64 : List RV := [.tmp 2]
theorem cc64 : (Try.f64.body.bind (cCode Try.prog Try.f64.ntmps)) = some c64 := by kernel_rfl
theorem cr64 : cRes Try.prog Try.f64.results.toList = some r64 := by kernel_rfl
theorem ca64 : callable Try.prog 64 = true := by kernel_rfl
def g65_0 : List G := [⟨(some 2), .box (.t 0), none⟩,
  ⟨(some 3), .box (.t 1), none⟩,
  ⟨(some 4), .mv (.c (.nils 7)), none⟩]
def d65_0 : Option (List (List Nat)) := none
def l65_0 : List Nat := []
theorem cd65_0 : dOk d65_0 g65_0 l65_0 = true := by kernel_rfl
def g65_1 : List G := [⟨(some 5), .fa 2 6 (.t 2), none⟩,
  ⟨(some 6), .ld none (.t 5), none⟩,
  ⟨(some 7), .call 85 [(.t 6)], none⟩,
  ⟨(some 8), .mk 105 [(.t 2), (.t 3)], none⟩,
  ⟨(some 9), .call 73 [(.t 7), (.t 8)], none⟩,
  ⟨(some 4), .mv (.t 9), none⟩]
def d65_1 : Option (List (List Nat)) := none
def l65_1 : List Nat := []
theorem cd65_1 : dOk d65_1 g65_1 l65_1 = true := by kernel_rfl
def c65 : AC := (.seq (.reg d65_0 g65_0) (.seq (.reg d65_1 g65_1) .ret))
def r65 : List RV := [.tmp 4]
theorem cc65 : (Try.f65.body.bind (cCode Try.prog Try.f65.ntmps)) = some c65 := by kernel_rfl
theorem cr65 : cRes Try.prog Try.f65.results.toList = some r65 := by kernel_rfl
theorem ca65 : callable Try.prog 65 = true := by kernel_rfl
def g66_0 : List G := [⟨(some 4), .mv (.c (.int .i64 (0))), none⟩]
def d66_0 : Option (List (List Nat)) := none
def l66_0 : List Nat := []
theorem cd66_0 : dOk d66_0 g66_0 l66_0 = true := by kernel_rfl
def g66_1 : List G := [⟨(some 9), .mv (.t 0), none⟩,
  ⟨(some 10), .len (.t 9), none⟩,
  ⟨(some 11), .mv (.c (.int .i64 (0))), none⟩]
def d66_1 : Option (List (List Nat)) := none
def l66_1 : List Nat := []
theorem cd66_1 : dOk d66_1 g66_1 l66_1 = true := by kernel_rfl
def g66_2 : List G := [⟨(some 12), .bin .lss (.t 11) (.t 10), none⟩]
def d66_2 : Option (List (List Nat)) := none
def l66_2 : List Nat := []
theorem cd66_2 : dOk d66_2 g66_2 l66_2 = true := by kernel_rfl
def g66_3 : List G := [⟨(some 13), .mv (.t 11), none⟩,
  ⟨(some 14), .is 1 (.t 9) (.t 11), none⟩,
  ⟨(some 15), .ld none (.t 14), none⟩,
  ⟨(some 5), .mv (.t 13), none⟩,
  ⟨(some 6), .mv (.t 15), none⟩]
def d66_3 : Option (List (List Nat)) := none
def l66_3 : List Nat := []
theorem cd66_3 : dOk d66_3 g66_3 l66_3 = true := by kernel_rfl
def g66_4 : List G := [⟨(some 16), .mv (.t 5), none⟩,
  ⟨(some 17), .mv (.t 1), none⟩,
  ⟨(some 18), .len (.t 17), none⟩,
  ⟨(some 19), .bin .geq (.t 16) (.t 18), none⟩]
def d66_4 : Option (List (List Nat)) := none
def l66_4 : List Nat := []
theorem cd66_4 : dOk d66_4 g66_4 l66_4 = true := by kernel_rfl
def g66_5 : List G := [⟨(some 4), .mv (.c (.int .i64 (1))), none⟩]
def d66_5 : Option (List (List Nat)) := none
def l66_5 : List Nat := []
theorem cd66_5 : dOk d66_5 g66_5 l66_5 = true := by kernel_rfl
def g66_6 : List G := [⟨(some 20), .mv (.t 1), none⟩,
  ⟨(some 21), .mv (.t 5), none⟩,
  ⟨(some 22), .is 1 (.t 20) (.t 21), none⟩,
  ⟨(some 23), .ld none (.t 22), none⟩,
  ⟨(some 7), .mv (.t 23), none⟩]
def d66_6 : Option (List (List Nat)) := none
def l66_6 : List Nat := []
theorem cd66_6 : dOk d66_6 g66_6 l66_6 = true := by kernel_rfl
def g66_7 : List G := [⟨(some 24), .mv (.t 6), none⟩,
  ⟨(some 25), .mv (.t 7), none⟩,
  ⟨(some 26), .call 106 [(.t 24), (.t 25)], none⟩,
  ⟨(some 8), .mv (.t 26), none⟩]
def d66_7 : Option (List (List Nat)) := none
def l66_7 : List Nat := []
theorem cd66_7 : dOk d66_7 g66_7 l66_7 = true := by kernel_rfl
def g66_8 : List G := [⟨(some 27), .mv (.t 8), none⟩,
  ⟨(some 28), .bin .neq (.t 27) (.c (.int .i64 (0))), none⟩]
def d66_8 : Option (List (List Nat)) := none
def l66_8 : List Nat := []
theorem cd66_8 : dOk d66_8 g66_8 l66_8 = true := by kernel_rfl
def g66_9 : List G := [⟨(some 29), .mv (.t 8), none⟩,
  ⟨(some 4), .mv (.t 29), none⟩]
def d66_9 : Option (List (List Nat)) := none
def l66_9 : List Nat := []
theorem cd66_9 : dOk d66_9 g66_9 l66_9 = true := by kernel_rfl
def g66_10 : List G := [⟨(some 30), .bin .add (.t 11) (.c (.int .i64 (1))), none⟩,
  ⟨(some 11), .mv (.t 30), none⟩]
def d66_10 : Option (List (List Nat)) := none
def l66_10 : List Nat := []
theorem cd66_10 : dOk d66_10 g66_10 l66_10 = true := by kernel_rfl
def g66_11 : List G := [⟨(some 31), .mv (.t 0), none⟩,
  ⟨(some 32), .len (.t 31), none⟩,
  ⟨(some 33), .mv (.t 1), none⟩,
  ⟨(some 34), .len (.t 33), none⟩,
  ⟨(some 35), .bin .lss (.t 32) (.t 34), none⟩]
def d66_11 : Option (List (List Nat)) := none
def l66_11 : List Nat := []
theorem cd66_11 : dOk d66_11 g66_11 l66_11 = true := by kernel_rfl
def g66_12 : List G := [⟨(some 4), .mv (.c (.int .i64 (-1))), none⟩]
def d66_12 : Option (List (List Nat)) := none
def l66_12 : List Nat := []
theorem cd66_12 : dOk d66_12 g66_12 l66_12 = true := by kernel_rfl
def g66_13 : List G := [⟨(some 4), .mv (.c (.int .i64 (0))), none⟩]
def d66_13 : Option (List (List Nat)) := none
def l66_13 : List Nat := []
theorem cd66_13 : dOk d66_13 g66_13 l66_13 = true := by kernel_rfl
def c66 : AC := (.seq (.reg d66_0 g66_0) (.seq (.seq (.reg d66_1 g66_1) (.block 0 (.loop (.seq (.reg d66_2 g66_2) (.seq (.cond (.t 12) .skip (.exit 0)) (.seq (.block 1 (.seq (.reg d66_3 g66_3) (.seq (.seq (.reg d66_4 g66_4) (.cond (.t 19) (.seq (.reg d66_5 g66_5) .ret) .skip)) (.seq (.reg d66_6 g66_6) (.seq (.reg d66_7 g66_7) (.seq (.reg d66_8 g66_8) (.cond (.t 28) (.seq (.reg d66_9 g66_9) .ret) .skip))))))) (.reg d66_10 g66_10))))))) (.seq (.seq (.reg d66_11 g66_11) (.cond (.t 35) (.seq (.reg d66_12 g66_12) .ret) .skip)) (.seq (.reg d66_13 g66_13) .ret))))
def r66 : List RV := [.tmp 4]
theorem cc66 : (Try.f66.body.bind (cCode Try.prog Try.f66.ntmps)) = some c66 := by kernel_rfl
theorem cr66 : cRes Try.prog Try.f66.results.toList = some r66 := by kernel_rfl
theorem ca66 : callable Try.prog 66 = true := by kernel_rfl
def g67_0 : List G := [⟨(some 3), .box (.t 0), none⟩,
  ⟨(some 6), .mv (.c (.bool false)), none⟩]
def d67_0 : Option (List (List Nat)) := none
def l67_0 : List Nat := []
theorem cd67_0 : dOk d67_0 g67_0 l67_0 = true := by kernel_rfl
def g67_1 : List G := [⟨(some 11), .mv (.t 1), none⟩,
  ⟨(some 12), .len (.t 11), none⟩,
  ⟨(some 13), .mv (.c (.int .i64 (0))), none⟩]
def d67_1 : Option (List (List Nat)) := none
def l67_1 : List Nat := []
theorem cd67_1 : dOk d67_1 g67_1 l67_1 = true := by kernel_rfl
def g67_2 : List G := [⟨(some 14), .bin .lss (.t 13) (.t 12), none⟩]
def d67_2 : Option (List (List Nat)) := none
def l67_2 : List Nat := []
theorem cd67_2 : dOk d67_2 g67_2 l67_2 = true := by kernel_rfl
def g67_3 : List G := [⟨(some 15), .mv (.t 13), none⟩,
  ⟨(some 16), .is 7 (.t 11) (.t 13), none⟩,
  ⟨(some 17), .ld (some 7) (.t 16), none⟩,
  ⟨(some 8), .alloc (.agg [.int .i64 (0), .agg [.int .i64 (0), .int .i64 (0), .int .i64 (0), .int .i64 (0), .int .i64 (0), .int .i64 (0)]]), none⟩,
  ⟨(some 7), .mv (.t 15), none⟩,
  ⟨none, .st (some 7) (.t 8) (.t 17), none⟩]
def d67_3 : Option (List (List Nat)) := none
def l67_3 : List Nat := []
theorem cd67_3 : dOk d67_3 g67_3 l67_3 = true := by kernel_rfl
def g67_4 : List G := [⟨(some 18), .mv (.t 1), none⟩,
  ⟨(some 19), .mv (.t 7), none⟩,
  ⟨(some 20), .sl 7 (.t 18) none (some (.t 19)) none, none⟩,
  ⟨(some 21), .len (.t 20), none⟩,
  ⟨(some 22), .mv (.c (.int .i64 (0))), none⟩]
def d67_4 : Option (List (List Nat)) := none
def l67_4 : List Nat := []
theorem cd67_4 : dOk d67_4 g67_4 l67_4 = true := by kernel_rfl
def g67_5 : List G := [⟨(some 23), .bin .lss (.t 22) (.t 21), none⟩]
def d67_5 : Option (List (List Nat)) := none
def l67_5 : List Nat := []
theorem cd67_5 : dOk d67_5 g67_5 l67_5 = true := by kernel_rfl
def g67_6 : List G := [⟨(some 24), .is 7 (.t 20) (.t 22), none⟩,
  ⟨(some 25), .ld (some 7) (.t 24), none⟩,
  ⟨(some 10), .alloc (.agg [.int .i64 (0), .agg [.int .i64 (0), .int .i64 (0), .int .i64 (0), .int .i64 (0), .int .i64 (0), .int .i64 (0)]]), none⟩,
  ⟨none, .st (some 7) (.t 10) (.t 25), none⟩]
def d67_6 : Option (List (List Nat)) := none
def l67_6 : List Nat := []
theorem cd67_6 : dOk d67_6 g67_6 l67_6 = true := by kernel_rfl
def g67_7 : List G := [⟨(some 26), .mv (.t 2), none⟩,
  ⟨(some 27), .mk 107 [(.t 3), (.t 8), (.t 10)], none⟩,
  ⟨(some 28), .call 75 [(.t 26), (.t 27)], none⟩,
  ⟨(some 29), .un .not (.t 28), none⟩]
def d67_7 : Option (List (List Nat)) := none
def l67_7 : List Nat := []
theorem cd67_7 : dOk d67_7 g67_7 l67_7 = true := by kernel_rfl
def g67_8 : List G := [⟨(some 6), .mv (.c (.bool false)), none⟩]
def d67_8 : Option (List (List Nat)) := none
def l67_8 : List Nat := []
theorem cd67_8 : dOk d67_8 g67_8 l67_8 = true := by kernel_rfl
def g67_9 : List G := [⟨(some 30), .bin .add (.t 22) (.c (.int .i64 (1))), none⟩,
  ⟨(some 22), .mv (.t 30), none⟩]
def d67_9 : Option (List (List Nat)) := none
def l67_9 : List Nat := []
theorem cd67_9 : dOk d67_9 g67_9 l67_9 = true := by kernel_rfl
def g67_10 : List G := [⟨(some 31), .bin .add (.t 13) (.c (.int .i64 (1))), none⟩,
  ⟨(some 13), .mv (.t 31), none⟩]
def d67_10 : Option (List (List Nat)) := none
def l67_10 : List Nat := []
theorem cd67_10 : dOk d67_10 g67_10 l67_10 = true := by kernel_rfl
def g67_11 : List G := [⟨(some 6), .mv (.c (.bool true)), none⟩]
def d67_11 : Option (List (List Nat)) := none
def l67_11 : List Nat := []
theorem cd67_11 : dOk d67_11 g67_11 l67_11 = true := by kernel_rfl
def c67 : AC := (.seq (.reg d67_0 g67_0) (.seq (.seq (.reg d67_1 g67_1) (.block 0 (.loop (.seq (.reg d67_2 g67_2) (.seq (.cond (.t 14) .skip (.exit 0)) (.seq (.block 1 (.seq (.reg d67_3 g67_3) (.seq (.reg d67_4 g67_4) (.block 2 (.loop (.seq (.reg d67_5 g67_5) (.seq (.cond (.t 23) .skip (.exit 2)) (.seq (.block 3 (.seq (.reg d67_6 g67_6) (.seq (.reg d67_7 g67_7) (.cond (.t 29) (.seq (.reg d67_8 g67_8) .ret) .skip)))) (.reg d67_9 g67_9))))))))) (.reg d67_10 g67_10))))))) (.seq (.reg d67_11 g67_11) .ret)))
def r67 : List RV := [.tmp 6]
theorem cc67 : (Try.f67.body.bind (cCode Try.prog Try.f67.ntmps)) = some c67 := by kernel_rfl
theorem cr67 : cRes Try.prog Try.f67.results.toList = some r67 := by kernel_rfl
theorem ca67 : callable Try.prog 67 = true := by kernel_rfl
def g71_0 : List G := [⟨(some 2), .mv (.c (.bool false)), none⟩]
def d71_0 : Option (List (List Nat)) := none
def l71_0 : List Nat := []
theorem cd71_0 : dOk d71_0 g71_0 l71_0 = true := by kernel_rfl
def g71_1 : List G := [⟨(some 5), .mv (.t 0), none⟩,
  ⟨(some 6), .len (.t 5), none⟩,
  ⟨(some 7), .mv (.c (.int .i64 (0))), none⟩]
def d71_1 : Option (List (List Nat)) := none
def l71_1 : List Nat := []
theorem cd71_1 : dOk d71_1 g71_1 l71_1 = true := by kernel_rfl
def g71_2 : List G := [⟨(some 8), .bin .lss (.t 7) (.t 6), none⟩]
def d71_2 : Option (List (List Nat)) := none
def l71_2 : List Nat := []
theorem cd71_2 : dOk d71_2 g71_2 l71_2 = true := by kernel_rfl
def g71_3 : List G := [⟨(some 9), .mv (.t 7), none⟩,
  ⟨(some 10), .is 1 (.t 5) (.t 7), none⟩,
  ⟨(some 11), .ld none (.t 10), none⟩,
  ⟨(some 3), .mv (.t 9), none⟩,
  ⟨(some 4), .mv (.t 11), none⟩]
def d71_3 : Option (List (List Nat)) := none
def l71_3 : List Nat := []
theorem cd71_3 : dOk d71_3 g71_3 l71_3 = true := by kernel_rfl
def g71_4 : List G := [⟨(some 12), .mv (.t 4), none⟩,
  ⟨(some 13), .call 89 [(.t 12), (.c (.int .i64 (0))), (.c (.int .i64 (5)))], none⟩,
  ⟨(some 14), .un .not (.t 13), none⟩,
  ⟨(some 15), .mv (.t 14), none⟩,
  ⟨(some 16), .mv (.t 3), some (15, false)⟩,
  ⟨(some 17), .bin .gtr (.t 16) (.c (.int .i64 (0))), some (15, false)⟩,
  ⟨(some 18), .mv (.t 17), some (15, false)⟩,
  ⟨(some 19), .mv (.t 0), some (18, true)⟩,
  ⟨(some 20), .mv (.t 3), some (18, true)⟩,
  ⟨(some 21), .bin .sub (.t 20) (.c (.int .i64 (1))), some (18, true)⟩,
  ⟨(some 22), .is 1 (.t 19) (.t 21), some (18, true)⟩,
  ⟨(some 23), .ld none (.t 22), some (18, true)⟩,
  ⟨(some 24), .mv (.t 4), some (18, true)⟩,
  ⟨(some 25), .bin .geq (.t 23) (.t 24), some (18, true)⟩,
  ⟨(some 26), .pick (.t 18) (.t 25) (.c (.bool false)), some (15, false)⟩,
  ⟨(some 27), .pick (.t 15) (.c (.bool true)) (.t 26), none⟩]
def d71_4 : Option (List (List Nat)) := none
def l71_4 : List Nat := []
theorem cd71_4 : dOk d71_4 g71_4 l71_4 = true := by kernel_rfl
def g71_5 : List G := [⟨(some 2), .mv (.c (.bool false)), none⟩]
def d71_5 : Option (List (List Nat)) := none
def l71_5 : List Nat := []
theorem cd71_5 : dOk d71_5 g71_5 l71_5 = true := by kernel_rfl
def g71_6 : List G := [⟨(some 28), .bin .add (.t 7) (.c (.int .i64 (1))), none⟩,
  ⟨(some 7), .mv (.t 28), none⟩]
def d71_6 : Option (List (List Nat)) := none
def l71_6 : List Nat := []
theorem cd71_6 : dOk d71_6 g71_6 l71_6 = true := by kernel_rfl
def g71_7 : List G := [⟨(some 2), .mv (.c (.bool true)), none⟩]
def d71_7 : Option (List (List Nat)) := none
def l71_7 : List Nat := []
theorem cd71_7 : dOk d71_7 g71_7 l71_7 = true := by kernel_rfl
def c71 : AC := (.seq (.reg d71_0 g71_0) (.seq (.seq (.reg d71_1 g71_1) (.block 0 (.loop (.seq (.reg d71_2 g71_2) (.seq (.cond (.t 8) .skip (.exit 0)) (.seq (.block 1 (.seq (.reg d71_3 g71_3) (.seq (.reg d71_4 g71_4) (.cond (.t 27) (.seq (.reg d71_5 g71_5) .ret) .skip)))) (.reg d71_6 g71_6))))))) (.seq (.reg d71_7 g71_7) .ret)))
def r71 : List RV := [.tmp 2]
theorem cc71 : (Try.f71.body.bind (cCode Try.prog Try.f71.ntmps)) = some c71 := by kernel_rfl
theorem cr71 : cRes Try.prog Try.f71.results.toList = some r71 := by kernel_rfl
theorem ca71 : callable Try.prog 71 = true := by kernel_rfl
def g72_0 : List G := [⟨(some 2), .mv (.c (.nils 1)), none⟩]
def d72_0 : Option (List (List Nat)) := none
def l72_0 : List Nat := []
theorem cd72_0 : dOk d72_0 g72_0 l72_0 = true := by kernel_rfl
def g72_1 : List G := [⟨(some 3), .mv (.c (.nils 1)), none⟩]
def d72_1 : Option (List (List Nat)) := none
def l72_1 : List Nat := []
theorem cd72_1 : dOk d72_1 g72_1 l72_1 = true := by kernel_rfl
def g72_2 : List G := [⟨(some 6), .mv (.t 0), none⟩,
  ⟨(some 7), .len (.t 6), none⟩,
  ⟨(some 8), .mv (.c (.int .i64 (0))), none⟩]
def d72_2 : Option (List (List Nat)) := none
def l72_2 : List Nat := []
theorem cd72_2 : dOk d72_2 g72_2 l72_2 = true := by kernel_rfl
def g72_3 : List G := [⟨(some 9), .bin .lss (.t 8) (.t 7), none⟩]
def d72_3 : Option (List (List Nat)) := none
def l72_3 : List Nat := []
theorem cd72_3 : dOk d72_3 g72_3 l72_3 = true := by kernel_rfl
def g72_4 : List G := [⟨(some 10), .is 7 (.t 6) (.t 8), none⟩,
  ⟨(some 11), .ld (some 7) (.t 10), none⟩,
  ⟨(some 5), .alloc (.agg [.int .i64 (0), .agg [.int .i64 (0), .int .i64 (0), .int .i64 (0), .int .i64 (0), .int .i64 (0), .int .i64 (0)]]), none⟩,
  ⟨none, .st (some 7) (.t 5) (.t 11), none⟩]
def d72_4 : Option (List (List Nat)) := none
def l72_4 : List Nat := []
theorem cd72_4 : dOk d72_4 g72_4 l72_4 = true := by kernel_rfl
def g72_5 : List G := [⟨(some 12), .mv (.t 3), none⟩,
  ⟨(some 13), .fa 0 0 (.t 5), none⟩,
  ⟨(some 14), .ld none (.t 13), none⟩,
  ⟨(some 15), .bs 1 [(.t 14)], none⟩,
  ⟨(some 16), .app 3 1 8 (.int .i64 (0)) (.t 12) (.t 15), none⟩,
  ⟨(some 3), .mv (.t 16), none⟩]
def d72_5 : Option (List (List Nat)) := none
def l72_5 : List Nat := []
theorem cd72_5 : dOk d72_5 g72_5 l72_5 = true := by kernel_rfl
def g72_6 : List G := [⟨(some 17), .bin .add (.t 8) (.c (.int .i64 (1))), none⟩,
  ⟨(some 8), .mv (.t 17), none⟩]
def d72_6 : Option (List (List Nat)) := none
def l72_6 : List Nat := []
theorem cd72_6 : dOk d72_6 g72_6 l72_6 = true := by kernel_rfl
def g72_7 : List G := [⟨(some 18), .mv (.t 3), none⟩,
  ⟨(some 2), .mv (.t 18), none⟩]
def d72_7 : Option (List (List Nat)) := none
def l72_7 : List Nat := []
theorem cd72_7 : dOk d72_7 g72_7 l72_7 = true := by kernel_rfl
def c72 : AC := (.seq (.reg d72_0 g72_0) (.seq (.reg d72_1 g72_1) (.seq (.seq (.reg d72_2 g72_2) (.block 0 (.loop (.seq (.reg d72_3 g72_3) (.seq (.cond (.t 9) .skip (.exit 0)) (.seq (.block 1 (.seq (.reg d72_4 g72_4) (.reg d72_5 g72_5))) (.reg d72_6 g72_6))))))) (.seq (.reg d72_7 g72_7) .ret))))
def r72 : List RV := [.tmp 2]
theorem cc72 : (Try.f72.body.bind (cCode Try.prog Try.f72.ntmps)) = some c72 := by kernel_rfl
theorem cr72 : cRes Try.prog Try.f72.results.toList = some r72 := by kernel_rfl
theorem ca72 : callable Try.prog 72 = true := by kernel_rfl
end Go.Proofs.Ytkjkbpgdpnapfaa

/-
  SMALL FUNCTIONS, EACH BY ITS CONTRACT: In, Has, Mod, At, IndexFunc and ContainsFunc over whole numbers.
-/
namespace Go.Proofs.Ytkjkbpgdpnapfaa
open Go Go.Abs
open Go.Abs.Enc (enc)
theorem F94 (n lo hi : Int) : Ctr Try.prog 94 [enc n, enc lo, enc hi] (enc (decide (lo ≤ n) && decide (n ≤ hi))) := by
  refine Ctr.mk' Try.func94 ca94 cc94 cr94 (Nat.le_of_ble_eq_true rfl) (fun hwf W0 D0 E1 => ?_)
  simp only [c94, r94, idx, Nat.zero_add, Nat.reduceAdd]
  refine AW.seq (AW.reg cd94_0 fun K hK => ?_)
  simp only [g94_0, bR, Nat.reduceEqDiff, reduceIte, Int.reduceBNe, Int.reduceBEq]
  refine .done (hK _ ?_); clear hK K; simp only [thenQ, blockQ]
  refine AW.seq (AW.reg cd94_1 fun K hK => ?_)
  simp only [g94_1, bR, Nat.reduceEqDiff, reduceIte, Int.reduceBNe, Int.reduceBEq]
  refine .guard (fun h => ?_) (fun h => ?_)
  · simp only [bR, Nat.reduceEqDiff, reduceIte, Int.reduceBNe, Int.reduceBEq, h]
    refine .done (hK _ ?_); clear hK K; simp only [thenQ, blockQ]
    refine AW.ret ?_
    simp only [blockQ, thenQ, bR, Nat.reduceEqDiff, reduceIte, Int.reduceBNe, Int.reduceBEq]
    simp_all
  · simp only [bR, Nat.reduceEqDiff, reduceIte, Int.reduceBNe, Int.reduceBEq, h]
    refine .done (hK _ ?_); clear hK K; simp only [thenQ, blockQ]
    refine AW.ret ?_
    simp only [blockQ, thenQ, bR, Nat.reduceEqDiff, reduceIte, Int.reduceBNe, Int.reduceBEq]
    simp at h
    simp; omega
/-- The text's number at a place, the text going round. -/
def at' (c : List Int) (i : Int) : Int := if c = [] then 0 else c.getD (i % c.length).toNat 0
end Go.Proofs.Ytkjkbpgdpnapfaa

/-
  CHECKS OF THE REFERENCE THAT LOOK AT AN ARRAY'S NUMBERS ONE BY ONE, EACH BY ITS CONTRACT: CheckMark, CheckReading, CheckWear, Sharp.
-/
namespace Go.Proofs.Ytkjkbpgdpnapfaa
open Go Go.Abs
open Go.Abs.Enc (enc)
def inR (lo hi n : Int) : Bool := decide (lo ≤ n) && decide (n ≤ hi)
def band (a b : Int) : Int := IntKind.i64.wrap ((BitVec.ofInt IntKind.i64.bits a &&& BitVec.ofInt IntKind.i64.bits b).toNat : Int)
def shl (a : Int) (k : Nat) : Int := IntKind.i64.wrap (a * 2 ^ min k IntKind.i64.bits)
theorem F42 (m : Arr 6 Int) : Ctr Try.prog 42 [enc m] (enc (if (List.range 6).all (fun i => inR 0 4 (m.g i)) then (0 : Int) else 10)) := by
  refine Ctr.mk' Try.func42 ca42 cc42 cr42 (Nat.le_of_ble_eq_true rfl) (fun hwf W0 D0 E1 => ?_)
  simp only [c42, r42, idx, Nat.zero_add, Nat.reduceAdd]
  refine AW.seq (AW.reg cd42_0 fun K hK => ?_)
  simp only [g42_0, bR, Nat.reduceEqDiff, reduceIte, Int.reduceBNe, Int.reduceBEq]
  refine .done (hK _ ?_); clear hK K; simp only [thenQ, blockQ]
  refine AW.seq ?_
  refine AW.seq (AW.reg cd42_1 fun K hK => ?_)
  simp only [g42_1, bR, Nat.reduceEqDiff, reduceIte, Int.reduceBNe, Int.reduceBEq]
  refine .done (hK _ ?_); clear hK K; simp only [thenQ, blockQ]
  refine AW.block (AW.loop (fun i : Nat => mkA [(1, .ptr 1 []), (2, .int .i64 0), (3, .int .i64 i)] [(1, .box (enc m))]) (fun j => j ≤ 6 ∧ ∀ i, i < j → inR 0 4 (m.g i) = true) (fun i => 6 - i) 0 ⟨by omega, fun k h => by omega⟩ ?_ (fun i hi => ?_))
  · refine Sub.of_lists ?_ ?_ ?_ ?_ <;> simp [subT, subO, onlyT, onlyO, isIn, look_cons, lookO_cons, lookO_nil, AV.only, AV.onlys, AO.only, onlys_map, onlys_append, e_only, e_int, e_bool]
  · refine AW.seq (AW.seq ?_)
    refine AW.reg cd42_2 fun K hK => ?_
    simp only [g42_2, bR, Nat.reduceEqDiff, reduceIte, Int.reduceBNe, Int.reduceBEq]
    refine .done (hK _ ?_); clear hK K; simp only [thenQ, blockQ]
    refine AW.ite ?_
    simp only [condQ, bR, Nat.reduceEqDiff, reduceIte, Int.reduceBNe, Int.reduceBEq]
    refine ⟨fun h => ?_, fun h => ?_⟩
    · have hlt : i < 6 := by simp at h; omega
      refine AW.skip ?_; simp only [thenQ, blockQ, reduceIte, Nat.reduceEqDiff]
      refine AW.seq (AW.block ?_)
      refine AW.seq (AW.reg cd42_3 fun K hK => ?_)
      simp only [g42_3, bR, Nat.reduceEqDiff, reduceIte, Int.reduceBNe, Int.reduceBEq]
      simp only [useR, inB_nat 1 m hlt rfl, atL_g m hlt, okR, bR, Nat.reduceEqDiff, reduceIte, Int.reduceBNe, Int.reduceBEq]
      refine .flat _ (F94 _ 0 4) rfl ?_
      simp only [bR, Nat.reduceEqDiff, reduceIte, Int.reduceBNe, Int.reduceBEq]
      refine .done (hK _ ?_); clear hK K; simp only [thenQ, blockQ]
      refine AW.ite ?_
      simp only [condQ, bR, Nat.reduceEqDiff, reduceIte, Int.reduceBNe, Int.reduceBEq]
      refine ⟨fun h => ?_, fun h => ?_⟩
      · refine AW.seq (AW.reg cd42_4 fun K hK => ?_)
        simp only [g42_4, bR, Nat.reduceEqDiff, reduceIte, Int.reduceBNe, Int.reduceBEq]
        refine .done (hK _ ?_); clear hK K; simp only [thenQ, blockQ]
        refine AW.ret ?_
        simp only [blockQ, thenQ, bR, Nat.reduceEqDiff, reduceIte, Int.reduceBNe, Int.reduceBEq]
        rw [all_false i hlt]
        · simp
        · simp at h; simp [inR]; omega
      · refine AW.skip ?_; simp only [thenQ, blockQ, reduceIte, Nat.reduceEqDiff]
        refine AW.reg cd42_5 fun K hK => ?_
        simp only [g42_5, bR, Nat.reduceEqDiff, reduceIte, Int.reduceBNe, Int.reduceBEq]
        refine .done (hK _ ?_); clear hK K; simp only [thenQ, blockQ]
        refine ⟨i + 1, ⟨by omega, fun k hk => ?_⟩, by omega, ?_⟩
        · by_cases hk' : k = i
          · subst hk'
            simpa [inR] using h
          · exact hi.2 k (by omega)
        · rw [wrap_id _ (by omega) (by omega)]
          refine Sub.of_lists ?_ ?_ ?_ ?_ <;> simp [subT, subO, onlyT, onlyO, isIn, look_cons, lookO_cons, lookO_nil, AV.only, AV.onlys, AO.only, onlys_map, onlys_append, e_only, e_int, e_bool]
    · have hge : i = 6 := by simp at h; omega
      subst hge
      refine AW.exit ?_; simp only [thenQ, blockQ, reduceIte, Nat.reduceEqDiff]
      refine AW.seq (AW.reg cd42_6 fun K hK => ?_)
      simp only [g42_6, bR, Nat.reduceEqDiff, reduceIte, Int.reduceBNe, Int.reduceBEq]
      refine .done (hK _ ?_); clear hK K; simp only [thenQ, blockQ]
      refine AW.ret ?_
      simp only [blockQ, thenQ, bR, Nat.reduceEqDiff, reduceIte, Int.reduceBNe, Int.reduceBEq]
      rw [all_true hi.2]
      simp
end Go.Proofs.Ytkjkbpgdpnapfaa

/-
  THE PROGRAM'S DATA AS ABSTRACT VALUES: a given mark, a book of marks. And small functions by contract: index, worn, meets, within, has, isSet.
-/
namespace Go.Proofs.Ytkjkbpgdpnapfaa
open Go Go.Abs
open Go.Abs.Enc (enc)
structure Given where
  owner : Int
  mark : Arr 6 Int
instance : Enc Given where
  enc g := .agg [.int .i64 g.owner, enc g.mark]
  sz := 7
  sh := .many [.one, .many (List.replicate 6 .one)]
  isA := true
  done g := by simp only [AV.done, AV.dones, Enc.done, Bool.and_self]
  size g := by simp only [AV.size, AV.sizes, e_size, e_szArr, e_szInt]
  shp g := by simp only [AV.sh, AV.shs, e_sh, e_shArr, e_shInt]
  agg _ := rfl
structure Marks where
  wear : Arr 5 Int
  fls : Int
  given : List Given
instance : Enc Marks where
  enc m := .agg [enc m.wear, .int .i64 m.fls, enc m.given]
  sz := 7
  sh := .many [.many (List.replicate 5 .one), .one, .one]
  isA := true
  done m := by simp only [AV.done, AV.dones, Enc.done, Bool.and_self]
  size m := by simp only [AV.size, AV.sizes, e_size, e_szArr, e_szInt, e_szList]
  shp m := by simp only [AV.sh, AV.shs, e_sh, e_shArr, e_shInt, e_shList]
  agg _ := rfl
theorem offR_eq {fs : List AV} {f off : Nat} {v : AV} (h1 : f < fs.length) (h : AV.sizes (fs.take f) = off) : offR fs f off v = some v := by simp [offR, h, h1]
theorem typR :
    (∀ m : Marks, (enc m).flds = some [enc m.wear, .int .i64 m.fls, enc m.given]) ∧ (∀ g : Given, (enc g).flds = some [.int .i64 g.owner, enc g.mark]) ∧
    (∀ (w : Arr 5 Int) (n : Int) (g : List Given) v, offR [enc w, .int .i64 n, enc g] 0 0 v = some v) ∧ (∀ (w : Arr 5 Int) (n : Int) (g : List Given) v, offR [enc w, .int .i64 n, enc g] 1 5 v = some v) ∧ (∀ (w : Arr 5 Int) (n : Int) (g : List Given) v, offR [enc w, .int .i64 n, enc g] 2 6 v = some v) ∧
    (∀ (n : Int) (m : Arr 6 Int) v, offR [.int .i64 n, enc m] 0 0 v = some v) ∧ (∀ (n : Int) (m : Arr 6 Int) v, offR [.int .i64 n, enc m] 1 1 v = some v) ∧
    (∀ (g : List Given), okLd none (enc g) = true) ∧ (∀ (g : List Int), okLd none (enc g) = true) ∧ (∀ (g : Arr 5 Int), okLd (some 5) (enc g) = true) ∧ (∀ (g : Arr 6 Int), okLd (some 6) (enc g) = true) ∧ (∀ (g : Given), okLd (some 7) (enc g) = true) ∧ (∀ (g : Marks), okLd (some 7) (enc g) = true) ∧
    (∀ (fs : List AV) x, (x :: fs)[0]? = some x) ∧ (∀ (fs : List AV) x n, (x :: fs)[n + 1]? = fs[n]?) ∧ (∀ (fs : List AV) x, (x :: fs)[1]? = fs[0]?) ∧ (∀ (fs : List AV) x, (x :: fs)[2]? = fs[1]?) :=
  ⟨fun _ => rfl, fun _ => rfl, fun _ _ _ _ => offR_eq (Nat.le_of_ble_eq_true rfl) rfl, fun w n g v => offR_eq (Nat.le_of_ble_eq_true rfl) (by simp [AV.sizes, e_size, e_szArr, e_szInt]), fun w n g v => offR_eq (Nat.le_of_ble_eq_true rfl) (by simp [AV.sizes, AV.size, e_size, e_szArr, e_szInt]), fun _ _ _ => offR_eq (Nat.le_of_ble_eq_true rfl) rfl, fun _ _ _ => offR_eq (Nat.le_of_ble_eq_true rfl) (by simp [AV.sizes, AV.size]),
    fun _ => by simp [e_okN, e_isAList], fun _ => by simp [e_okN, e_isAList], fun _ => by simp [e_okS, e_isAArr, e_szArr, e_szInt], fun _ => by simp [e_okS, e_isAArr, e_szArr, e_szInt], fun _ => by rw [e_okS]; rfl, fun _ => by rw [e_okS]; rfl,
    fun _ _ => rfl, fun _ _ _ => rfl, fun _ _ => rfl, fun _ _ => rfl⟩
theorem F89 (n lo hi : Int) : Ctr Try.prog 89 [enc n, enc lo, enc hi] (enc (inR lo hi n)) := by
  refine Ctr.mk' Try.func89 ca89 cc89 cr89 (Nat.le_of_ble_eq_true rfl) (fun hwf W0 D0 E1 => ?_)
  simp only [c89, r89, idx, Nat.zero_add, Nat.reduceAdd]
  refine AW.seq (AW.reg cd89_0 fun K hK => ?_)
  simp only [g89_0, bR, Nat.reduceEqDiff, reduceIte, Int.reduceBNe, Int.reduceBEq]
  refine .done (hK _ ?_); clear hK K; simp only [thenQ, blockQ]
  refine AW.seq (AW.reg cd89_1 fun K hK => ?_)
  simp only [g89_1, bR, Nat.reduceEqDiff, reduceIte, Int.reduceBNe, Int.reduceBEq]
  refine .guard (fun h => ?_) (fun h => ?_)
  · simp only [bR, Nat.reduceEqDiff, reduceIte, Int.reduceBNe, Int.reduceBEq, h]
    refine .done (hK _ ?_); clear hK K; simp only [thenQ, blockQ]
    refine AW.ret ?_
    simp only [blockQ, thenQ, bR, Nat.reduceEqDiff, reduceIte, Int.reduceBNe, Int.reduceBEq]
    simp_all [inR]
  · simp only [bR, Nat.reduceEqDiff, reduceIte, Int.reduceBNe, Int.reduceBEq, h]
    refine .done (hK _ ?_); clear hK K; simp only [thenQ, blockQ]
    refine AW.ret ?_
    simp only [blockQ, thenQ, bR, Nat.reduceEqDiff, reduceIte, Int.reduceBNe, Int.reduceBEq]
    simp at h
    simp [inR]; omega
theorem F117 (n : Int) : Ctr Try.prog 117 [enc n] (enc (inR 0 31 n)) := by
  refine Ctr.mk' Try.func117 ca117 cc117 cr117 (Nat.le_of_ble_eq_true rfl) (fun hwf W0 D0 E1 => ?_)
  simp only [c117, r117, idx, Nat.zero_add, Nat.reduceAdd]
  refine AW.seq (AW.reg cd117_0 fun K hK => ?_)
  simp only [g117_0, bR, Nat.reduceEqDiff, reduceIte, Int.reduceBNe, Int.reduceBEq]
  refine .done (hK _ ?_); clear hK K; simp only [thenQ, blockQ]
  refine AW.seq (AW.reg cd117_1 fun K hK => ?_)
  simp only [g117_1, bR, Nat.reduceEqDiff, reduceIte, Int.reduceBNe, Int.reduceBEq]
  refine .flat _ (F89 n 0 31) rfl ?_
  simp only [bR, Nat.reduceEqDiff, reduceIte, Int.reduceBNe, Int.reduceBEq]
  refine .done (hK _ ?_); clear hK K; simp only [thenQ, blockQ]
  refine AW.ret ?_
  simp only [blockQ, thenQ, bR, Nat.reduceEqDiff, reduceIte, Int.reduceBNe, Int.reduceBEq]
theorem F78 (a b : Int) : Ctr Try.prog 78 [enc a, enc b] (enc (band a b != 0)) := by
  refine Ctr.mk' Try.func78 ca78 cc78 cr78 (Nat.le_of_ble_eq_true rfl) (fun hwf W0 D0 E1 => ?_)
  simp only [c78, r78, idx, Nat.zero_add, Nat.reduceAdd]
  refine AW.seq (AW.reg cd78_0 fun K hK => ?_)
  simp only [g78_0, bR, Nat.reduceEqDiff, reduceIte, Int.reduceBNe, Int.reduceBEq]
  refine .done (hK _ ?_); clear hK K; simp only [thenQ, blockQ]
  refine AW.seq (AW.reg cd78_1 fun K hK => ?_)
  simp only [g78_1, bR, Nat.reduceEqDiff, reduceIte, Int.reduceBNe, Int.reduceBEq]
  refine .done (hK _ ?_); clear hK K; simp only [thenQ, blockQ]
  refine AW.ret ?_
  simp only [blockQ, thenQ, bR, Nat.reduceEqDiff, reduceIte, Int.reduceBNe, Int.reduceBEq]
  rfl
theorem F77 (w : Arr 5 Int) (m : Arr 6 Int) (i : Nat) (hi : i < 6) (h0 : 0 ≤ m.g i) (h5 : m.g i < 5) : Ctr Try.prog 77 [enc w, enc m, enc (i : Int)] (enc (w.g (m.g i).toNat)) := by
  refine Ctr.mk' Try.func77 ca77 cc77 cr77 (Nat.le_of_ble_eq_true rfl) (fun hwf W0 D0 E1 => ?_)
  simp only [c77, r77, idx, Nat.zero_add, Nat.reduceAdd]
  refine AW.seq (AW.reg cd77_0 fun K hK => ?_)
  simp only [g77_0, bR, Nat.reduceEqDiff, reduceIte, Int.reduceBNe, Int.reduceBEq]
  refine .done (hK _ ?_); clear hK K; simp only [thenQ, blockQ]
  refine AW.seq (AW.reg cd77_1 fun K hK => ?_)
  simp only [g77_1, bR, Nat.reduceEqDiff, reduceIte, Int.reduceBNe, Int.reduceBEq]
  have hk : (m.g i).toNat < 5 := by omega
  simp only [useR, inB_nat 1 m hi rfl, atL_g m hi, okR, bR, Nat.reduceEqDiff, reduceIte, Int.reduceBNe, Int.reduceBEq]
  simp only [useR, inB_int 1 w ⟨h0, h5⟩ rfl, atL_g w hk, okR, bR, Nat.reduceEqDiff, reduceIte, Int.reduceBNe, Int.reduceBEq]
  refine .done (hK _ ?_); clear hK K; simp only [thenQ, blockQ]
  refine AW.ret ?_
  simp only [blockQ, thenQ, bR, Nat.reduceEqDiff, reduceIte, Int.reduceBNe, Int.reduceBEq]
end Go.Proofs.Ytkjkbpgdpnapfaa

/-
  FUNCTIONS OF THE REFERENCE BY CONTRACT: index, distance.
-/
namespace Go.Proofs.Ytkjkbpgdpnapfaa
open Go Go.Abs
open Go.Abs.Enc (enc)
def cnt (p : Nat → Bool) : Nat → Nat
  | 0 => 0
  | n + 1 => cnt p n + if p n then 1 else 0
theorem cnt_le (p : Nat → Bool) : ∀ n, cnt p n ≤ n
  | 0 => Nat.le_refl _
  | n + 1 => by have := cnt_le p n; simp only [cnt]; split <;> omega
/-- Where in the book an owner's mark lies; -1: nowhere. -/
def indexOf (l : List Given) (o : Int) : Int := match l.findIdx? fun g => g.owner == o with
  | some i => i
  | none => -1
theorem F80 (m : Marks) (o : Int) : Ctr Try.prog 80 [enc m, enc o] (enc (indexOf m.given o)) := by
  refine Ctr.mk' Try.func80 ca80 cc80 cr80 (Nat.le_of_ble_eq_true rfl) (fun hwf W0 D0 E1 => ?_)
  simp only [c80, r80, idx, Nat.zero_add, Nat.reduceAdd]
  have hlen : m.given.length ≤ maxLen := ((wf_list m.given).1 hwf.1.2.2.1).1
  simp only [maxLen] at hlen
  refine AW.seq (AW.reg cd80_0 fun K hK => ?_)
  simp only [g80_0, bR, Nat.reduceEqDiff, reduceIte, Int.reduceBNe, Int.reduceBEq]
  refine .done (hK _ ?_); clear hK K; simp only [thenQ, blockQ]
  refine AW.seq ?_
  refine AW.seq (AW.reg cd80_1 fun K hK => ?_)
  simp only [g80_1, bR, Nat.reduceEqDiff, reduceIte, Int.reduceBNe, Int.reduceBEq]
  refine .done (hK _ ?_); clear hK K; simp only [thenQ, blockQ]
  refine AW.block (AW.loop (fun i : Nat => mkA [(1, .int .i64 o), (2, .ptr 2 []), (5, .int .i64 i)] [(2, .box (enc m))]) (fun i => i ≤ m.given.length ∧ ∀ k (h : k < m.given.length), k < i → m.given[k].owner ≠ o) (fun i => m.given.length - i) 0 ⟨by omega, fun k _ h => by omega⟩ ?_ (fun i hi => ?_))
  · refine Sub.of_lists ?_ ?_ ?_ ?_ <;> simp [subT, subO, onlyT, onlyO, isIn, look_cons, lookO_cons, lookO_nil, AV.only, AV.onlys, AO.only, onlys_map, onlys_append, e_only, e_int, e_bool]
  · refine AW.seq (AW.seq ?_)
    refine AW.reg cd80_2 fun K hK => ?_
    simp only [g80_2, bR, Nat.reduceEqDiff, reduceIte, Int.reduceBNe, Int.reduceBEq]
    simp only [typR, useR, okR, bR, Nat.reduceEqDiff, reduceIte, Int.reduceBNe, Int.reduceBEq]
    refine .done (hK _ ?_); clear hK K; simp only [thenQ, blockQ]
    refine AW.ite ?_
    simp only [condQ, bR, Nat.reduceEqDiff, reduceIte, Int.reduceBNe, Int.reduceBEq]
    refine ⟨fun h => ?_, fun h => ?_⟩
    · have hlt : i < m.given.length := by simpa using h
      refine AW.skip ?_; simp only [thenQ, blockQ, reduceIte, Nat.reduceEqDiff]
      refine AW.seq (AW.block ?_)
      refine AW.seq (AW.reg cd80_3 fun K hK => ?_)
      simp only [g80_3, bR, Nat.reduceEqDiff, reduceIte, Int.reduceBNe, Int.reduceBEq]
      simp only [typR, useR, okR, isE_nat 7 hlt rfl, bR, Nat.reduceEqDiff, reduceIte, Int.reduceBNe, Int.reduceBEq]
      refine .done (hK _ ?_); clear hK K; simp only [thenQ, blockQ]
      refine AW.ite ?_
      simp only [condQ, bR, Nat.reduceEqDiff, reduceIte, Int.reduceBNe, Int.reduceBEq]
      refine ⟨fun h => ?_, fun h => ?_⟩
      · refine AW.seq (AW.reg cd80_4 fun K hK => ?_)
        simp only [g80_4, bR, Nat.reduceEqDiff, reduceIte, Int.reduceBNe, Int.reduceBEq]
        refine .done (hK _ ?_); clear hK K; simp only [thenQ, blockQ]
        refine AW.ret ?_
        simp only [blockQ, thenQ, bR, Nat.reduceEqDiff, reduceIte, Int.reduceBNe, Int.reduceBEq]
        have : m.given.findIdx? (fun g => g.owner == o) = some i := by
          rw [List.findIdx?_eq_some_iff_getElem]
          refine ⟨hlt, by simpa using h, fun j hj => ?_⟩
          have := hi.2 j (by omega) hj
          simpa using this
        simp [indexOf, this]
      · refine AW.skip ?_; simp only [thenQ, blockQ, reduceIte, Nat.reduceEqDiff]
        refine AW.reg cd80_5 fun K hK => ?_
        simp only [g80_5, bR, Nat.reduceEqDiff, reduceIte, Int.reduceBNe, Int.reduceBEq]
        refine .done (hK _ ?_); clear hK K; simp only [thenQ, blockQ]
        refine ⟨i + 1, ⟨by omega, fun k hk hki => ?_⟩, by omega, ?_⟩
        · by_cases hk' : k = i
          · subst hk'; simpa using h
          · exact hi.2 k hk (by omega)
        · rw [wrap_id _ (by omega) (by omega)]
          refine Sub.of_lists ?_ ?_ ?_ ?_ <;> simp [subT, subO, onlyT, onlyO, isIn, look_cons, lookO_cons, lookO_nil, AV.only, AV.onlys, AO.only, onlys_map, onlys_append, e_only, e_int, e_bool]
    · have hge : i = m.given.length := by simp at h; omega
      refine AW.exit ?_; simp only [thenQ, blockQ, reduceIte, Nat.reduceEqDiff]
      refine AW.seq (AW.reg cd80_6 fun K hK => ?_)
      simp only [g80_6, bR, Nat.reduceEqDiff, reduceIte, Int.reduceBNe, Int.reduceBEq]
      refine .done (hK _ ?_); clear hK K; simp only [thenQ, blockQ]
      refine AW.ret ?_
      simp only [blockQ, thenQ, bR, Nat.reduceEqDiff, reduceIte, Int.reduceBNe, Int.reduceBEq]
      have : m.given.findIdx? (fun g => g.owner == o) = none := by
        rw [List.findIdx?_eq_none_iff]
        intro x hx
        obtain ⟨k, hk, rfl⟩ := List.getElem_of_mem hx
        simpa using hi.2 k hk (by omega)
      simp [indexOf, this]
/-- Whether a place of two marks differs under a wear. -/
def apartAt (w : Arr 5 Int) (a b : Arr 6 Int) (i : Nat) : Bool := band (w.g (a.g i).toNat) (w.g (b.g i).toNat) == 0
def okMark (m : Arr 6 Int) : Bool := (List.range 6).all fun i => inR 0 4 (m.g i)
theorem okMark_at {m : Arr 6 Int} (h : okMark m = true) {i : Nat} (hi : i < 6) : 0 ≤ m.g i ∧ m.g i < 5 := by
  simp only [okMark, List.all_eq_true, List.mem_range] at h
  have := h i hi
  simp [inR] at this
  omega
theorem F99 (w : Arr 5 Int) (a b : Arr 6 Int) (ha : okMark a = true) (hb : okMark b = true) : Ctr Try.prog 99 [enc w, enc a, enc b] (enc (cnt (apartAt w a b) 6 : Int)) := by
  refine Ctr.mk' Try.func99 ca99 cc99 cr99 (Nat.le_of_ble_eq_true rfl) (fun hwf W0 D0 E1 => ?_)
  simp only [c99, r99, idx, Nat.zero_add, Nat.reduceAdd]
  refine AW.seq (AW.reg cd99_0 fun K hK => ?_)
  simp only [g99_0, bR, Nat.reduceEqDiff, reduceIte, Int.reduceBNe, Int.reduceBEq]
  refine .done (hK _ ?_); clear hK K; simp only [thenQ, blockQ]
  refine AW.seq (AW.reg cd99_1 fun K hK => ?_)
  simp only [g99_1, bR, Nat.reduceEqDiff, reduceIte, Int.reduceBNe, Int.reduceBEq]
  refine .done (hK _ ?_); clear hK K; simp only [thenQ, blockQ]
  refine AW.seq (AW.seq ?_)
  refine AW.reg cd99_2 fun K hK => ?_
  simp only [g99_2, bR, Nat.reduceEqDiff, reduceIte, Int.reduceBNe, Int.reduceBEq]
  refine .done (hK _ ?_); clear hK K; simp only [thenQ, blockQ]
  refine AW.block (AW.loop (fun i : Nat => mkA [(3, .ptr 3 []), (4, .ptr 4 []), (5, .ptr 5 []), (7, .int .i64 (cnt (apartAt w a b) i)), (8, .int .i64 i)] [(3, .box (enc w)), (4, .box (enc a)), (5, .box (enc b))]) (fun i => i ≤ 6) (fun i => 6 - i) 0 (by omega) ?_ (fun i hi => ?_))
  · simp only [cnt]
    refine Sub.of_lists ?_ ?_ ?_ ?_ <;> simp [subT, subO, onlyT, onlyO, isIn, look_cons, lookO_cons, lookO_nil, AV.only, AV.onlys, AO.only, onlys_map, onlys_append, e_only, e_int, e_bool]
  · have hc := cnt_le (apartAt w a b) i
    refine AW.seq (AW.seq ?_)
    refine AW.reg cd99_3 fun K hK => ?_
    simp only [g99_3, bR, Nat.reduceEqDiff, reduceIte, Int.reduceBNe, Int.reduceBEq]
    refine .done (hK _ ?_); clear hK K; simp only [thenQ, blockQ]
    refine AW.ite ?_
    simp only [condQ, bR, Nat.reduceEqDiff, reduceIte, Int.reduceBNe, Int.reduceBEq]
    refine ⟨fun h => ?_, fun h => ?_⟩
    · have hlt : i < 6 := by simp at h; omega
      have h1 := okMark_at ha hlt
      have h2 := okMark_at hb hlt
      refine AW.skip ?_; simp only [thenQ, blockQ, reduceIte, Nat.reduceEqDiff]
      refine AW.seq (AW.block ?_)
      refine AW.seq (AW.reg cd99_4 fun K hK => ?_)
      simp only [g99_4, bR, Nat.reduceEqDiff, reduceIte, Int.reduceBNe, Int.reduceBEq]
      have k1 : (a.g i).toNat < 5 := by omega
      have k2 : (b.g i).toNat < 5 := by omega
      simp only [useR, inB_nat 1 a hlt rfl, atL_g a hlt, okR, bR, Nat.reduceEqDiff, reduceIte, Int.reduceBNe, Int.reduceBEq]
      simp only [useR, inB_int 1 w h1 rfl, atL_g w k1, okR, bR, Nat.reduceEqDiff, reduceIte, Int.reduceBNe, Int.reduceBEq]
      simp only [useR, inB_nat 1 b hlt rfl, atL_g b hlt, okR, bR, Nat.reduceEqDiff, reduceIte, Int.reduceBNe, Int.reduceBEq]
      simp only [useR, inB_int 1 w h2 rfl, atL_g w k2, okR, bR, Nat.reduceEqDiff, reduceIte, Int.reduceBNe, Int.reduceBEq]
      refine .done (hK _ ?_); clear hK K; simp only [thenQ, blockQ]
      refine AW.ite ?_
      simp only [condQ, bR, Nat.reduceEqDiff, reduceIte, Int.reduceBNe, Int.reduceBEq]
      refine ⟨fun h => ?_, fun h => ?_⟩
      · have hap : apartAt w a b i = true := h
        refine AW.reg cd99_5 fun K hK => ?_
        simp only [g99_5, bR, Nat.reduceEqDiff, reduceIte, Int.reduceBNe, Int.reduceBEq]
        refine .done (hK _ ?_); clear hK K; simp only [thenQ, blockQ]
        refine AW.reg cd99_6 fun K hK => ?_
        simp only [g99_6, bR, Nat.reduceEqDiff, reduceIte, Int.reduceBNe, Int.reduceBEq]
        refine .done (hK _ ?_); clear hK K; simp only [thenQ, blockQ]
        refine ⟨i + 1, by omega, by omega, ?_⟩
        rw [wrap_id _ (by omega) (by omega), wrap_id _ (by omega) (by omega)]
        simp only [cnt, hap, if_true]
        refine Sub.of_lists ?_ ?_ ?_ ?_ <;> simp [subT, subO, onlyT, onlyO, isIn, look_cons, lookO_cons, lookO_nil, AV.only, AV.onlys, AO.only, onlys_map, onlys_append, e_only, e_int, e_bool]
      · have hap : apartAt w a b i = false := h
        refine AW.skip ?_; simp only [thenQ, blockQ, reduceIte, Nat.reduceEqDiff]
        refine AW.reg cd99_6 fun K hK => ?_
        simp only [g99_6, bR, Nat.reduceEqDiff, reduceIte, Int.reduceBNe, Int.reduceBEq]
        refine .done (hK _ ?_); clear hK K; simp only [thenQ, blockQ]
        refine ⟨i + 1, by omega, by omega, ?_⟩
        rw [wrap_id _ (by omega) (by omega)]
        simp only [cnt, hap, Bool.false_eq_true, if_false]
        refine Sub.of_lists ?_ ?_ ?_ ?_ <;> simp [subT, subO, onlyT, onlyO, isIn, look_cons, lookO_cons, lookO_nil, AV.only, AV.onlys, AO.only, onlys_map, onlys_append, e_only, e_int, e_bool]
    · have hge : i = 6 := by simp at h; omega
      subst hge
      refine AW.exit ?_; simp only [thenQ, blockQ, reduceIte, Nat.reduceEqDiff]
      refine AW.seq (AW.reg cd99_7 fun K hK => ?_)
      simp only [g99_7, bR, Nat.reduceEqDiff, reduceIte, Int.reduceBNe, Int.reduceBEq]
      refine .done (hK _ ?_); clear hK K; simp only [thenQ, blockQ]
      refine AW.ret ?_
      simp only [blockQ, thenQ, bR, Nat.reduceEqDiff, reduceIte, Int.reduceBNe, Int.reduceBEq]
end Go.Proofs.Ytkjkbpgdpnapfaa

/-
  SMALL FUNCTIONS OF THE REFERENCE, EACH BY ITS CONTRACT: Members, CheckWear, Same.
-/
namespace Go.Proofs.Ytkjkbpgdpnapfaa
open Go Go.Abs
open Go.Abs.Enc (enc)
/-- Whether a bit is set. -/
def bit (w : Int) (k : Nat) : Bool := band w (shl 1 k) != 0
def members (w : Int) : Nat → List Int
  | 0 => []
  | k + 1 => members w k ++ if bit w k then [(k : Int)] else []
theorem members_le (w : Int) : ∀ k, (members w k).length ≤ k
  | 0 => Nat.le_refl _
  | k + 1 => by
    have := members_le w k
    simp only [members, List.length_append]
    split <;> simp <;> omega
theorem F44 (m : Arr 5 Int) : Ctr Try.prog 44 [enc m] (enc (if (List.range 5).all (fun i => inR 0 31 (m.g i) && bit (m.g i) i) then (0 : Int) else 11)) := by
  refine Ctr.mk' Try.func44 ca44 cc44 cr44 (Nat.le_of_ble_eq_true rfl) (fun hwf W0 D0 E1 => ?_)
  simp only [c44, r44, idx, Nat.zero_add, Nat.reduceAdd]
  refine AW.seq (AW.reg cd44_0 fun K hK => ?_)
  simp only [g44_0, bR, Nat.reduceEqDiff, reduceIte, Int.reduceBNe, Int.reduceBEq]
  refine .done (hK _ ?_); clear hK K; simp only [thenQ, blockQ]
  refine AW.seq ?_
  refine AW.seq (AW.reg cd44_1 fun K hK => ?_)
  simp only [g44_1, bR, Nat.reduceEqDiff, reduceIte, Int.reduceBNe, Int.reduceBEq]
  refine .done (hK _ ?_); clear hK K; simp only [thenQ, blockQ]
  refine AW.block (AW.loop (fun i : Nat => mkA [(1, .ptr 1 []), (2, .int .i64 0), (3, .int .i64 i)] [(1, .box (enc m))]) (fun j => j ≤ 5 ∧ ∀ i, i < j → (inR 0 31 (m.g i) && bit (m.g i) i) = true) (fun i => 5 - i) 0 ⟨by omega, fun k h => by omega⟩ ?_ (fun i hi => ?_))
  · refine Sub.of_lists ?_ ?_ ?_ ?_ <;> simp [subT, subO, onlyT, onlyO, isIn, look_cons, lookO_cons, lookO_nil, AV.only, AV.onlys, AO.only, onlys_map, onlys_append, e_only, e_int, e_bool]
  · refine AW.seq (AW.seq ?_)
    refine AW.reg cd44_2 fun K hK => ?_
    simp only [g44_2, bR, Nat.reduceEqDiff, reduceIte, Int.reduceBNe, Int.reduceBEq]
    refine .done (hK _ ?_); clear hK K; simp only [thenQ, blockQ]
    refine AW.ite ?_
    simp only [condQ, bR, Nat.reduceEqDiff, reduceIte, Int.reduceBNe, Int.reduceBEq]
    refine ⟨fun h => ?_, fun h => ?_⟩
    · have hlt : i < 5 := by simp at h; omega
      refine AW.skip ?_; simp only [thenQ, blockQ, reduceIte, Nat.reduceEqDiff]
      refine AW.seq (AW.block ?_)
      refine AW.seq (AW.reg cd44_3 fun K hK => ?_)
      simp only [g44_3, bR, Nat.reduceEqDiff, reduceIte, Int.reduceBNe, Int.reduceBEq]
      simp only [useR, inB_nat 1 m hlt rfl, atL_g m hlt, okR, bR, Nat.reduceEqDiff, reduceIte, Int.reduceBNe, Int.reduceBEq]
      refine .flat _ (F94 _ 0 31) rfl ?_
      generalize hb : (decide (0 ≤ m.g i) && decide (m.g i ≤ 31)) = b
      cases b
      · simp only [bR, Nat.reduceEqDiff, reduceIte, Int.reduceBNe, Int.reduceBEq]
        refine .done (hK _ ?_); clear hK K; simp only [thenQ, blockQ]
        refine AW.ite ?_
        simp only [condQ, bR, Nat.reduceEqDiff, reduceIte, Int.reduceBNe, Int.reduceBEq]
        refine ⟨fun h => ?_, fun h => ?_⟩
        · refine AW.seq (AW.reg cd44_4 fun K hK => ?_)
          simp only [g44_4, bR, Nat.reduceEqDiff, reduceIte, Int.reduceBNe, Int.reduceBEq]
          refine .done (hK _ ?_); clear hK K; simp only [thenQ, blockQ]
          refine AW.ret ?_
          simp only [blockQ, thenQ, bR, Nat.reduceEqDiff, reduceIte, Int.reduceBNe, Int.reduceBEq]
          rw [all_false i hlt]
          · simp
          · simp only [inR, hb, Bool.false_and]
        · cases h
      · simp only [useR, inB_nat 1 m hlt rfl, atL_g m hlt, okR, bR, Nat.reduceEqDiff, reduceIte, Int.reduceBNe, Int.reduceBEq]
        refine .done (hK _ ?_); clear hK K; simp only [thenQ, blockQ]
        refine AW.ite ?_
        simp only [condQ, bR, Nat.reduceEqDiff, reduceIte, Int.reduceBNe, Int.reduceBEq]
        refine ⟨fun h => ?_, fun h => ?_⟩
        · refine AW.seq (AW.reg cd44_4 fun K hK => ?_)
          simp only [g44_4, bR, Nat.reduceEqDiff, reduceIte, Int.reduceBNe, Int.reduceBEq]
          refine .done (hK _ ?_); clear hK K; simp only [thenQ, blockQ]
          refine AW.ret ?_
          simp only [blockQ, thenQ, bR, Nat.reduceEqDiff, reduceIte, Int.reduceBNe, Int.reduceBEq]
          rw [all_false i hlt]
          · simp
          · simp only [inR, hb, Bool.true_and, bit, band, shl]
            simpa using h
        · refine AW.skip ?_; simp only [thenQ, blockQ, reduceIte, Nat.reduceEqDiff]
          refine AW.reg cd44_5 fun K hK => ?_
          simp only [g44_5, bR, Nat.reduceEqDiff, reduceIte, Int.reduceBNe, Int.reduceBEq]
          refine .done (hK _ ?_); clear hK K; simp only [thenQ, blockQ]
          refine ⟨i + 1, ⟨by omega, fun k hk => ?_⟩, by omega, ?_⟩
          · by_cases hk' : k = i
            · subst hk'
              simp only [inR, hb, Bool.true_and, bit, band, shl]
              simpa using h
            · exact hi.2 k (by omega)
          · rw [wrap_id _ (by omega) (by omega)]
            refine Sub.of_lists ?_ ?_ ?_ ?_ <;> simp [subT, subO, onlyT, onlyO, isIn, look_cons, lookO_cons, lookO_nil, AV.only, AV.onlys, AO.only, onlys_map, onlys_append, e_only, e_int, e_bool]
    · have hge : i = 5 := by simp at h; omega
      subst hge
      refine AW.exit ?_; simp only [thenQ, blockQ, reduceIte, Nat.reduceEqDiff]
      refine AW.seq (AW.reg cd44_6 fun K hK => ?_)
      simp only [g44_6, bR, Nat.reduceEqDiff, reduceIte, Int.reduceBNe, Int.reduceBEq]
      refine .done (hK _ ?_); clear hK K; simp only [thenQ, blockQ]
      refine AW.ret ?_
      simp only [blockQ, thenQ, bR, Nat.reduceEqDiff, reduceIte, Int.reduceBNe, Int.reduceBEq]
      rw [all_true hi.2]
      simp
theorem F16 (a b : List Int) : Ctr Try.prog 16 [enc a, enc b] (enc (decide (a = b))) := by
  refine Ctr.mk' Try.func16 ca16 cc16 cr16 (Nat.le_of_ble_eq_true rfl) (fun hwf W0 D0 E1 => ?_)
  simp only [c16, r16, idx, Nat.zero_add, Nat.reduceAdd]
  have hlen : a.length ≤ maxLen := ((wf_list a).1 hwf.1).1
  simp only [maxLen] at hlen
  refine AW.seq (AW.reg cd16_0 fun K hK => ?_)
  simp only [g16_0, bR, Nat.reduceEqDiff, reduceIte, Int.reduceBNe, Int.reduceBEq]
  refine .done (hK _ ?_); clear hK K; simp only [thenQ, blockQ]
  refine AW.seq (AW.seq ?_)
  refine AW.reg cd16_1 fun K hK => ?_
  simp only [g16_1, bR, Nat.reduceEqDiff, reduceIte, Int.reduceBNe, Int.reduceBEq]
  simp only [useR, bR, Nat.reduceEqDiff, reduceIte, Int.reduceBNe, Int.reduceBEq]
  refine .done (hK _ ?_); clear hK K; simp only [thenQ, blockQ]
  refine AW.ite ?_
  simp only [condQ, bR, Nat.reduceEqDiff, reduceIte, Int.reduceBNe, Int.reduceBEq]
  refine ⟨fun h => ?_, fun h => ?_⟩
  · refine AW.seq (AW.reg cd16_2 fun K hK => ?_)
    simp only [g16_2, bR, Nat.reduceEqDiff, reduceIte, Int.reduceBNe, Int.reduceBEq]
    refine .done (hK _ ?_); clear hK K; simp only [thenQ, blockQ]
    refine AW.ret ?_
    simp only [blockQ, thenQ, bR, Nat.reduceEqDiff, reduceIte, Int.reduceBNe, Int.reduceBEq]
    simp at h
    have : a ≠ b := fun e => h (by rw [e])
    simp [this]
  · have hab : a.length = b.length := by simp at h; omega
    refine AW.skip ?_; simp only [thenQ, blockQ, reduceIte, Nat.reduceEqDiff]
    refine AW.seq ?_
    refine AW.seq (AW.reg cd16_3 fun K hK => ?_)
    simp only [g16_3, bR, Nat.reduceEqDiff, reduceIte, Int.reduceBNe, Int.reduceBEq]
    refine .done (hK _ ?_); clear hK K; simp only [thenQ, blockQ]
    refine AW.block (AW.loop (fun i : Nat => mkA [(0, enc a), (1, enc b), (5, .int .i64 i)] []) (fun i => i ≤ a.length ∧ a.take i = b.take i) (fun i => a.length - i) 0 ⟨Nat.zero_le _, by simp⟩ ?_ (fun i hi => ?_))
    · refine Sub.of_lists ?_ ?_ ?_ ?_ <;> simp [subT, subO, onlyT, onlyO, isIn, look_cons, lookO_cons, lookO_nil, AV.only, AV.onlys, AO.only, onlys_map, onlys_append, e_only, e_int, e_bool]
    · refine AW.seq (AW.seq ?_)
      refine AW.reg cd16_4 fun K hK => ?_
      simp only [g16_4, bR, Nat.reduceEqDiff, reduceIte, Int.reduceBNe, Int.reduceBEq]
      simp only [useR, bR, Nat.reduceEqDiff, reduceIte, Int.reduceBNe, Int.reduceBEq]
      refine .done (hK _ ?_); clear hK K; simp only [thenQ, blockQ]
      refine AW.ite ?_
      simp only [condQ, bR, Nat.reduceEqDiff, reduceIte, Int.reduceBNe, Int.reduceBEq]
      refine ⟨fun h => ?_, fun h => ?_⟩
      · have hlt : i < a.length := by simpa using h
        have hlb : i < b.length := by omega
        refine AW.skip ?_; simp only [thenQ, blockQ, reduceIte, Nat.reduceEqDiff]
        refine AW.seq (AW.block ?_)
        refine AW.seq (AW.reg cd16_5 fun K hK => ?_)
        simp only [g16_5, bR, Nat.reduceEqDiff, reduceIte, Int.reduceBNe, Int.reduceBEq]
        simp only [isE_nat 1 hlt rfl, isE_nat 1 hlb rfl, okR, bR, Nat.reduceEqDiff, reduceIte, Int.reduceBNe, Int.reduceBEq]
        refine .done (hK _ ?_); clear hK K; simp only [thenQ, blockQ]
        refine AW.ite ?_
        simp only [condQ, bR, Nat.reduceEqDiff, reduceIte, Int.reduceBNe, Int.reduceBEq]
        refine ⟨fun h => ?_, fun h => ?_⟩
        · refine AW.seq (AW.reg cd16_6 fun K hK => ?_)
          simp only [g16_6, bR, Nat.reduceEqDiff, reduceIte, Int.reduceBNe, Int.reduceBEq]
          refine .done (hK _ ?_); clear hK K; simp only [thenQ, blockQ]
          refine AW.ret ?_
          simp only [blockQ, thenQ, bR, Nat.reduceEqDiff, reduceIte, Int.reduceBNe, Int.reduceBEq]
          have hne : a ≠ b := fun e => by subst e; simp at h
          simp [hne]
        · refine AW.skip ?_; simp only [thenQ, blockQ, reduceIte, Nat.reduceEqDiff]
          refine AW.reg cd16_7 fun K hK => ?_
          simp only [g16_7, bR, Nat.reduceEqDiff, reduceIte, Int.reduceBNe, Int.reduceBEq]
          refine .done (hK _ ?_); clear hK K; simp only [thenQ, blockQ]
          refine ⟨i + 1, ⟨by omega, ?_⟩, by omega, ?_⟩
          · rw [List.take_succ_eq_append_getElem hlt, List.take_succ_eq_append_getElem hlb, hi.2]
            simp at h
            rw [h]
          · rw [wrap_id _ (by omega) (by omega)]
            refine Sub.of_lists ?_ ?_ ?_ ?_ <;> simp [subT, subO, onlyT, onlyO, isIn, look_cons, lookO_cons, lookO_nil, AV.only, AV.onlys, AO.only, onlys_map, onlys_append, e_only, e_int, e_bool]
      · have hge : i = a.length := by simp at h; omega
        refine AW.exit ?_; simp only [thenQ, blockQ, reduceIte, Nat.reduceEqDiff]
        refine AW.seq (AW.reg cd16_8 fun K hK => ?_)
        simp only [g16_8, bR, Nat.reduceEqDiff, reduceIte, Int.reduceBNe, Int.reduceBEq]
        refine .done (hK _ ?_); clear hK K; simp only [thenQ, blockQ]
        refine AW.ret ?_
        simp only [blockQ, thenQ, bR, Nat.reduceEqDiff, reduceIte, Int.reduceBNe, Int.reduceBEq]
        have : a = b := by
          have := hi.2
          rw [hge, List.take_length] at this
          rw [hab, List.take_length] at this
          exact this
        simp [this]
end Go.Proofs.Ytkjkbpgdpnapfaa

