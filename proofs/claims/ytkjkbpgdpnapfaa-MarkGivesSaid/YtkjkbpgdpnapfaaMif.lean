/-
  FUNCTIONS OF mark BY CONTRACT: Look.
-/
import Derived.Test.YtkjkbpgdpnapfaaRows
import Derived.Test.YtkjkbpgdpnapfaaMie
set_option linter.unusedSimpArgs false
set_option linter.unusedVariables false
namespace Go.Proofs.Ytkjkbpgdpnapfaa
open Go Go.Abs
open Go.Abs.Enc (enc)
def bitsOf (s : Nat) : Nat → List Int
  | 0 => []
  | i + 1 => bitsOf s i ++ if hasB s i then [(i : Int)] else []
theorem bitsOf_le (s : Nat) : ∀ i, (bitsOf s i).length ≤ i
  | 0 => Nat.le_refl _
  | i + 1 => by
    have := bitsOf_le s i
    simp only [bitsOf, List.length_append]
    split <;> simp <;> omega
theorem bitsOf_in (s : Nat) : ∀ i, i ≤ 6 → ∀ k ∈ bitsOf s i, 0 ≤ k ∧ k < 6
  | 0, _ => by simp [bitsOf]
  | i + 1, h => by
    intro k hk
    simp only [bitsOf, List.mem_append] at hk
    rcases hk with hk | hk
    · exact bitsOf_in s i (by omega) k hk
    · split at hk
      · simp only [List.mem_singleton] at hk; omega
      · cases hk
def better (found : Bool) (best set : List Int) : Bool := (!found || decide ((set.length : Int) < best.length)) || (((set.length : Int) == best.length) && decide (cmpL set best < 0))
def lookStep (w : Arr 5 Int) (poss : List Given) (p : List Int × Bool) (s : Nat) : List Int × Bool := if better p.2 p.1 (bitsOf s 6) && settled w poss (bitsOf s 6) then (bitsOf s 6, true) else p
def lookUp (w : Arr 5 Int) (poss : List Given) : Nat → List Int × Bool
  | 0 => ([], false)
  | s + 1 => lookStep w poss (lookUp w poss s) s
def lookOf (m : Marks) (r : Arr 6 Int) : List Int × Int := if okM m then (if okReading r then ((lookUp m.wear (possG m r) 64).1, 0) else ([], 12)) else ([], 13)
theorem lookUp_le (w : Arr 5 Int) (poss : List Given) : ∀ s, (lookUp w poss s).1.length ≤ 6
  | 0 => by simp [lookUp]
  | s + 1 => by
    have := lookUp_le w poss s
    have h2 := bitsOf_le s 6
    simp only [lookUp, lookStep]
    split
    · exact h2
    · exact this
theorem possG_mem {m : Marks} {r : Arr 6 Int} {g : Given} (h : g ∈ possG m r) : g ∈ m.given := (List.mem_filter.1 h).1
theorem F12 (m : Marks) (r : Arr 6 Int) : Ctr Try.prog 12 [enc m, enc r] (.tuple [enc (lookOf m r).1, enc (lookOf m r).2]) := by
  refine Ctr.mk' Try.func12 ca12 cc12 cr12 (Nat.le_of_ble_eq_true rfl) (fun hwf W0 D0 E1 => ?_)
  simp only [c12, r12, idx, Nat.zero_add, Nat.reduceAdd]
  refine AW.seq (AW.reg cd12_0 fun K hK => ?_)
  simp only [g12_0, bR, Nat.reduceEqDiff, reduceIte, Int.reduceBNe, Int.reduceBEq]
  simp only [e_isVal, bR, Nat.reduceEqDiff, reduceIte, Int.reduceBNe, Int.reduceBEq]
  refine .done (hK _ ?_); clear hK K; simp only [thenQ, blockQ]
  refine AW.seq ?_
  refine AW.seq (AW.reg cd12_1 fun K hK => ?_)
  simp only [g12_1, bR, Nat.reduceEqDiff, reduceIte, Int.reduceBNe, Int.reduceBEq]
  simp only [typR, useR, okR, e_fin, bR, Nat.reduceEqDiff, reduceIte, Int.reduceBNe, Int.reduceBEq]
  refine .flat _ (F47 m) rfl ?_
  simp only [typR, useR, okR, e_fin, bR, Nat.reduceEqDiff, reduceIte, Int.reduceBNe, Int.reduceBEq]
  refine .flat _ (F45 r) rfl ?_
  simp only [typR, useR, okR, e_fin, bs2, bR, Nat.reduceEqDiff, reduceIte, Int.reduceBNe, Int.reduceBEq]
  refine .flat _ (F64 _) rfl ?_
  rw [first2 _ _ 13 12 (by decide) (by decide)]
  simp only [bR, Nat.reduceEqDiff, reduceIte, Int.reduceBNe, Int.reduceBEq]
  refine .done (hK _ ?_); clear hK K; simp only [thenQ, blockQ]
  generalize hw : okM m = bw
  generalize hr : okReading r = br
  cases bw
  · refine AW.seq (AW.reg cd12_2 fun K hK => ?_)
    simp only [g12_2, bR, Nat.reduceEqDiff, reduceIte, Int.reduceBNe, Int.reduceBEq]
    refine .done (hK _ ?_); clear hK K; simp only [thenQ, blockQ]
    refine AW.ite ?_
    simp only [condQ, bR, Nat.reduceEqDiff, reduceIte, Int.reduceBNe, Int.reduceBEq]
    refine ⟨fun h => ?_, fun h => ?_⟩
    · refine AW.seq (AW.reg cd12_3 fun K hK => ?_)
      simp only [g12_3, bR, Nat.reduceEqDiff, reduceIte, Int.reduceBNe, Int.reduceBEq]
      refine .done (hK _ ?_); clear hK K; simp only [thenQ, blockQ]
      refine AW.ret ?_
      simp only [blockQ, thenQ, bR, Nat.reduceEqDiff, reduceIte, Int.reduceBNe, Int.reduceBEq]
      simp [lookOf, hw, nilInt]
    · cases h
  cases br
  · refine AW.seq (AW.reg cd12_2 fun K hK => ?_)
    simp only [g12_2, bR, Nat.reduceEqDiff, reduceIte, Int.reduceBNe, Int.reduceBEq]
    refine .done (hK _ ?_); clear hK K; simp only [thenQ, blockQ]
    refine AW.ite ?_
    simp only [condQ, bR, Nat.reduceEqDiff, reduceIte, Int.reduceBNe, Int.reduceBEq]
    refine ⟨fun h => ?_, fun h => ?_⟩
    · refine AW.seq (AW.reg cd12_3 fun K hK => ?_)
      simp only [g12_3, bR, Nat.reduceEqDiff, reduceIte, Int.reduceBNe, Int.reduceBEq]
      refine .done (hK _ ?_); clear hK K; simp only [thenQ, blockQ]
      refine AW.ret ?_
      simp only [blockQ, thenQ, bR, Nat.reduceEqDiff, reduceIte, Int.reduceBNe, Int.reduceBEq]
      simp [lookOf, hw, hr, nilInt]
    · cases h
  refine AW.seq (AW.reg cd12_2 fun K hK => ?_)
  simp only [g12_2, bR, Nat.reduceEqDiff, reduceIte, Int.reduceBNe, Int.reduceBEq]
  refine .done (hK _ ?_); clear hK K; simp only [thenQ, blockQ]
  refine AW.ite ?_
  simp only [condQ, bR, Nat.reduceEqDiff, reduceIte, Int.reduceBNe, Int.reduceBEq]
  refine ⟨fun h => ?_, fun h => ?_⟩
  · cases h
  refine AW.skip ?_; simp only [thenQ, blockQ, reduceIte, Nat.reduceEqDiff]
  have hlen : m.given.length ≤ 1000 := by have := okM_len hw; omega
  have hpl : (possG m r).length ≤ 1000 := Nat.le_trans (List.length_filter_le _ _) hlen
  have hpm : ∀ g ∈ possG m r, okMark g.mark = true := fun g hg => okM_mark hw g (possG_mem hg)
  obtain ⟨poss, hposs⟩ : ∃ poss, poss = possG m r := ⟨_, rfl⟩
  -- what follows, from the possible ones on
  have key : ∀ c : Ctx, c = ⟨Try.prog, W0, D0, Try.f12.ntmps, ownE E1, E1, noY, none⟩ → AW c (.seq (.reg d12_5 g12_5) (.seq (.reg d12_6 g12_6) (.seq (.seq (.reg d12_7 g12_7) (.block 0 (.loop (.seq (.reg d12_8 g12_8) (.seq (.cond (.t 27) .skip (.exit 0)) (.seq (.block 1 (.seq (.reg d12_9 g12_9) (.seq (.reg d12_10 g12_10) (.seq (.seq (.reg d12_11 g12_11) (.block 2 (.loop (.seq (.reg d12_12 g12_12) (.seq (.cond (.t 30) .skip (.exit 2)) (.seq (.block 3 (.seq (.reg d12_13 g12_13) (.seq (.reg d12_14 g12_14) (.cond (.t 36) (.reg d12_15 g12_15) .skip)))) (.reg d12_16 g12_16))))))) (.seq (.reg d12_17 g12_17) (.seq (.reg d12_18 g12_18) (.cond (.t 71) (.reg d12_19 g12_19) .skip))))))) (.reg d12_20 g12_20))))))) (.seq (.reg d12_21 g12_21) .ret))))
      (retQ [.tmp 4, .tmp 5] (.tuple [enc (lookOf m r).1, enc (lookOf m r).2])) (mkA [(2, .ptr 2 []), (3, .ptr 3 []), (7, enc poss)] [(2, .box (enc m)), (3, .box (enc r))]) := by
    rintro c rfl
    refine AW.seq (AW.reg cd12_5 fun K hK => ?_)
    simp only [g12_5, bR, Nat.reduceEqDiff, reduceIte, Int.reduceBNe, Int.reduceBEq]
    refine .done (hK _ ?_); clear hK K; simp only [thenQ, blockQ]
    refine AW.seq (AW.reg cd12_6 fun K hK => ?_)
    simp only [g12_6, bR, Nat.reduceEqDiff, reduceIte, Int.reduceBNe, Int.reduceBEq]
    refine .done (hK _ ?_); clear hK K; simp only [thenQ, blockQ]
    refine AW.seq ?_
    refine AW.seq (AW.reg cd12_7 fun K hK => ?_)
    simp only [g12_7, bR, Nat.reduceEqDiff, reduceIte, Int.reduceBNe, Int.reduceBEq]
    refine .done (hK _ ?_); clear hK K; simp only [thenQ, blockQ]
    refine AW.block (AW.loop (fun s : Nat => mkA [(2, .ptr 2 []), (3, .ptr 3 []), (7, enc poss), (8, enc (lookUp m.wear poss s).1), (9, .bool (lookUp m.wear poss s).2), (26, .int .i64 s)] [(2, .box (enc m)), (3, .box (enc r))]) (fun s => s ≤ 64) (fun s => 64 - s) 0 (by omega) ?_ (fun s hs => ?_))
    · simp only [lookUp]
      refine Sub.freeL (y := .slice 1 []) [] 8 rfl rfl ?_ ?_ ?_ ?_ ?_
      · simp [dropO, onlyO, AO.only, e_only]
      · simp [subT, fgt, look_cons, AV.only, e_only]; rfl
      · simp [subO, dropO, lookO_cons]
      · simp [onlyT, isIn, lookO_cons, AV.only, e_only]
      · simp [onlyO, AO.only, e_only]
    obtain ⟨best, hbest⟩ : ∃ best, (lookUp m.wear poss s).1 = best := ⟨_, rfl⟩
    obtain ⟨found, hfound⟩ : ∃ found, (lookUp m.wear poss s).2 = found := ⟨_, rfl⟩
    have hlu : lookUp m.wear poss s = (best, found) := by rw [← hbest, ← hfound]
    have hbl : best.length ≤ 6 := by rw [← hbest]; exact lookUp_le _ _ _
    rw [hbest, hfound]
    refine AW.seq (AW.reg cd12_8 fun K hK => ?_)
    simp only [g12_8, bR, Nat.reduceEqDiff, reduceIte, Int.reduceBNe, Int.reduceBEq]
    refine .done (hK _ ?_); clear hK K; simp only [thenQ, blockQ]
    refine AW.seq ?_
    refine AW.ite ?_
    simp only [condQ, bR, Nat.reduceEqDiff, reduceIte, Int.reduceBNe, Int.reduceBEq]
    refine ⟨fun h => ?_, fun h => ?_⟩
    case refine_2.refine_2 =>
      have hge : s = 64 := by simp at h; omega
      subst hge
      refine AW.exit ?_; simp only [thenQ, blockQ, reduceIte, Nat.reduceEqDiff]
      refine AW.seq (AW.reg cd12_21 fun K hK => ?_)
      simp only [g12_21, bR, Nat.reduceEqDiff, reduceIte, Int.reduceBNe, Int.reduceBEq]
      refine .done (hK _ ?_); clear hK K; simp only [thenQ, blockQ]
      refine AW.ret ?_
      simp only [blockQ, thenQ, bR, Nat.reduceEqDiff, reduceIte, Int.reduceBNe, Int.reduceBEq]
      simp only [e_fin, bR, Nat.reduceEqDiff, reduceIte, Int.reduceBNe, Int.reduceBEq]
      simp [lookOf, hw, hr, hlu, ← hposs, e_int]
    have hlt : s < 64 := by simp at h; omega
    refine AW.skip ?_; simp only [thenQ, blockQ, reduceIte, Nat.reduceEqDiff]
    refine AW.seq (AW.block ?_)
    refine AW.seq (AW.reg cd12_9 fun K hK => ?_)
    simp only [g12_9, bR, Nat.reduceEqDiff, reduceIte, Int.reduceBNe, Int.reduceBEq]
    refine .done (hK _ ?_); clear hK K; simp only [thenQ, blockQ]
    refine AW.seq (AW.reg cd12_10 fun K hK => ?_)
    simp only [g12_10, bR, Nat.reduceEqDiff, reduceIte, Int.reduceBNe, Int.reduceBEq]
    refine .done (hK _ ?_); clear hK K; simp only [thenQ, blockQ]
    refine AW.seq ?_
    refine AW.seq (AW.reg cd12_11 fun K hK => ?_)
    simp only [g12_11, bR, Nat.reduceEqDiff, reduceIte, Int.reduceBNe, Int.reduceBEq]
    refine .done (hK _ ?_); clear hK K; simp only [thenQ, blockQ]
    refine AW.block (AW.loop (fun i : Nat => mkA [(2, .ptr 2 []), (3, .ptr 3 []), (7, enc poss), (8, enc best), (9, .bool found), (10, .int .i64 s), (26, .int .i64 s), (11, .own 11 (bitsOf s i).length), (29, .int .i64 i)] [(11, .row 3 1 ((bitsOf s i).map enc)), (2, .box (enc m)), (3, .box (enc r))]) (fun i => i ≤ 6) (fun i => 6 - i) 0 (by omega) ?_ (fun i hi => ?_))
    · refine Sub.adoptL 11 11 3 1 1 ?_ ?_ ?_
      · simp only [absR, Nat.reduceEqDiff, reduceIte]
      · simp only [absR, Nat.reduceEqDiff, reduceIte]
      · simp only [bitsOf, List.map_nil, List.length_nil]
        refine Sub.of_lists ?_ ?_ ?_ ?_ <;> simp [subT, subO, onlyT, onlyO, isIn, look_cons, lookO_cons, lookO_nil, AV.only, AV.onlys, AO.only, onlys_map, onlys_append, e_only, e_int, e_bool]
    refine AW.seq (AW.reg cd12_12 fun K hK => ?_)
    simp only [g12_12, bR, Nat.reduceEqDiff, reduceIte, Int.reduceBNe, Int.reduceBEq]
    refine .done (hK _ ?_); clear hK K; simp only [thenQ, blockQ]
    refine AW.seq ?_
    refine AW.ite ?_
    simp only [condQ, bR, Nat.reduceEqDiff, reduceIte, Int.reduceBNe, Int.reduceBEq]
    refine ⟨fun h => ?_, fun h => ?_⟩
    · have hi6 : i < 6 := by simp at h; omega
      have hml := bitsOf_le s i
      refine AW.skip ?_; simp only [thenQ, blockQ, reduceIte, Nat.reduceEqDiff]
      refine AW.seq (AW.block ?_)
      refine AW.seq (AW.reg cd12_13 fun K hK => ?_)
      simp only [g12_13, bR, Nat.reduceEqDiff, reduceIte, Int.reduceBNe, Int.reduceBEq]
      refine .done (hK _ ?_); clear hK K; simp only [thenQ, blockQ]
      refine AW.seq (AW.reg cd12_14 fun K hK => ?_)
      simp only [g12_14, bR, Nat.reduceEqDiff, reduceIte, Int.reduceBNe, Int.reduceBEq]
      refine .done (hK _ ?_); clear hK K; simp only [thenQ, blockQ]
      refine AW.ite ?_
      simp only [condQ, bR, Nat.reduceEqDiff, reduceIte, Int.reduceBNe, Int.reduceBEq]
      refine ⟨fun h => ?_, fun h => ?_⟩
      · have hb : hasB s i = true := h
        refine AW.reg cd12_15 fun K hK => ?_
        simp only [g12_15, bR, Nat.reduceEqDiff, reduceIte, Int.reduceBNe, Int.reduceBEq]
        rw [appR3_enc 3 1 8 11 rfl rfl (by simp) (by simp [maxLen]; omega) (by simp; omega)]
        simp only [bR, Nat.reduceEqDiff, reduceIte, Int.reduceBNe, Int.reduceBEq]
        refine .done (hK _ ?_); clear hK K; simp only [thenQ, blockQ]
        refine AW.reg cd12_16 fun K hK => ?_
        simp only [g12_16, bR, Nat.reduceEqDiff, reduceIte, Int.reduceBNe, Int.reduceBEq]
        refine .done (hK _ ?_); clear hK K; simp only [thenQ, blockQ]
        refine ⟨i + 1, by omega, by omega, ?_⟩
        rw [wrap_id _ (by omega) (by omega)]
        simp only [bitsOf, hb, reduceIte]
        refine Sub.of_lists ?_ ?_ ?_ ?_ <;> simp [subT, subO, onlyT, onlyO, isIn, look_cons, lookO_cons, lookO_nil, AV.only, AV.onlys, AO.only, onlys_map, onlys_append, e_only, e_int, e_bool]
      · have hb : hasB s i = false := h
        refine AW.skip ?_; simp only [thenQ, blockQ, reduceIte, Nat.reduceEqDiff]
        refine AW.reg cd12_16 fun K hK => ?_
        simp only [g12_16, bR, Nat.reduceEqDiff, reduceIte, Int.reduceBNe, Int.reduceBEq]
        refine .done (hK _ ?_); clear hK K; simp only [thenQ, blockQ]
        refine ⟨i + 1, by omega, by omega, ?_⟩
        rw [wrap_id _ (by omega) (by omega)]
        simp only [bitsOf, hb, reduceIte, Bool.false_eq_true, List.append_nil]
        refine Sub.of_lists ?_ ?_ ?_ ?_ <;> simp [subT, subO, onlyT, onlyO, isIn, look_cons, lookO_cons, lookO_nil, AV.only, AV.onlys, AO.only, onlys_map, onlys_append, e_only, e_int, e_bool]
    have hi6 : i = 6 := by simp at h; omega
    subst hi6
    refine AW.exit ?_; simp only [thenQ, blockQ, reduceIte, Nat.reduceEqDiff]
    have hset := bitsOf_in s 6 (Nat.le_refl _)
    have hsl := bitsOf_le s 6
    have hstep : lookUp m.wear poss (s + 1) = lookStep m.wear poss (best, found) s := by rw [lookUp, hlu]
    obtain ⟨set, hsetd⟩ : ∃ set, bitsOf s 6 = set := ⟨_, rfl⟩
    simp only [lookStep, hsetd] at hstep
    rw [hsetd] at hset hsl ⊢
    refine AW.sub (B := mkA [(2, .ptr 2 []), (3, .ptr 3 []), (7, enc poss), (8, enc best), (9, .bool found), (11, enc set), (26, .int .i64 s)] [(2, .box (enc m)), (3, .box (enc r))]) (Sub.freeL (y := enc set) [11] 11 (by simp only [bR, Nat.reduceEqDiff, reduceIte, Int.reduceBNe, Int.reduceBEq]; rfl) ?_ ?_ ?_ ?_ ?_ ?_) ?_
    · simp only [keepO, List.filter_cons, List.filter_nil, List.contains_cons, List.contains_nil, Nat.reduceBEq, Bool.or_false, Bool.or_true, Bool.true_or, BEq.rfl, bR, Nat.reduceEqDiff, reduceIte, Int.reduceBNe, Int.reduceBEq]
    · simp [dropO, onlyO, AO.only, e_only]
    · simp [subT, fgt, look_cons, AV.only, e_only]
    · simp [subO, dropO, lookO_cons]
    · simp [onlyT, isIn, lookO_cons, AV.only, e_only]
    · simp [onlyO, AO.only, e_only]
    refine AW.seq (AW.via (mkA [(13, .bool (better found best set)), (2, .ptr 2 []), (3, .ptr 3 []), (7, enc poss), (8, enc best), (9, .bool found), (11, enc set), (26, .int .i64 s)] [(2, .box (enc m)), (3, .box (enc r))]) ?_ fun B hB => ?_)
    · refine AW.reg cd12_17 fun K hK => ?_
      simp only [g12_17, bR, Nat.reduceEqDiff, reduceIte, Int.reduceBNe, Int.reduceBEq]
      cases found
      · try simp only [typR, useR, okR, e_fin, bR, Nat.reduceEqDiff, reduceIte, Int.reduceBNe, Int.reduceBEq]
        refine .done (hK _ ?_); clear hK K; simp only [thenQ, blockQ]
        simp only [better, Bool.not_false, Bool.true_or]
        refine Sub.of_lists ?_ ?_ ?_ ?_ <;> simp [subT, subO, onlyT, onlyO, isIn, look_cons, lookO_cons, lookO_nil, AV.only, AV.onlys, AO.only, onlys_map, onlys_append, e_only, e_int, e_bool]
      try simp only [typR, useR, okR, e_fin, bR, Nat.reduceEqDiff, reduceIte, Int.reduceBNe, Int.reduceBEq]
      generalize hb1 : decide ((set.length : Int) < best.length) = b1
      cases b1
      · try simp only [typR, useR, okR, e_fin, bR, Nat.reduceEqDiff, reduceIte, Int.reduceBNe, Int.reduceBEq]
        generalize hb2 : ((set.length : Int) == best.length) = b2
        cases b2
        · try simp only [typR, useR, okR, e_fin, bR, Nat.reduceEqDiff, reduceIte, Int.reduceBNe, Int.reduceBEq]
          refine .done (hK _ ?_); clear hK K; simp only [thenQ, blockQ]
          simp only [better, hb1, hb2, Bool.not_true, Bool.false_or, Bool.or_false, Bool.false_and]
          refine Sub.of_lists ?_ ?_ ?_ ?_ <;> simp [subT, subO, onlyT, onlyO, isIn, look_cons, lookO_cons, lookO_nil, AV.only, AV.onlys, AO.only, onlys_map, onlys_append, e_only, e_int, e_bool]
        try simp only [typR, useR, okR, e_fin, bR, Nat.reduceEqDiff, reduceIte, Int.reduceBNe, Int.reduceBEq]
        refine .flat _ (F66 set best) rfl ?_
        try simp only [typR, useR, okR, e_fin, bR, Nat.reduceEqDiff, reduceIte, Int.reduceBNe, Int.reduceBEq]
        refine .done (hK _ ?_); clear hK K; simp only [thenQ, blockQ]
        simp only [better, hb1, hb2, Bool.not_true, Bool.false_or, Bool.or_false, Bool.true_and]
        refine Sub.of_lists ?_ ?_ ?_ ?_ <;> simp [subT, subO, onlyT, onlyO, isIn, look_cons, lookO_cons, lookO_nil, AV.only, AV.onlys, AO.only, onlys_map, onlys_append, e_only, e_int, e_bool]
      · try simp only [typR, useR, okR, e_fin, bR, Nat.reduceEqDiff, reduceIte, Int.reduceBNe, Int.reduceBEq]
        refine .done (hK _ ?_); clear hK K; simp only [thenQ, blockQ]
        simp only [better, hb1, Bool.not_true, Bool.false_or, Bool.true_or]
        refine Sub.of_lists ?_ ?_ ?_ ?_ <;> simp [subT, subO, onlyT, onlyO, isIn, look_cons, lookO_cons, lookO_nil, AV.only, AV.onlys, AO.only, onlys_map, onlys_append, e_only, e_int, e_bool]
    simp only [thenQ, blockQ]
    refine AW.sub hB ?_
    generalize hbt : better found best set = bt at hstep
    refine AW.seq (AW.reg cd12_18 fun K hK => ?_)
    simp only [g12_18, bR, Nat.reduceEqDiff, reduceIte, Int.reduceBNe, Int.reduceBEq]
    cases bt
    · try simp only [typR, useR, okR, e_fin, bR, Nat.reduceEqDiff, reduceIte, Int.reduceBNe, Int.reduceBEq]
      refine .done (hK _ ?_); clear hK K; simp only [thenQ, blockQ]
      refine AW.ite ?_
      simp only [condQ, bR, Nat.reduceEqDiff, reduceIte, Int.reduceBNe, Int.reduceBEq]
      refine ⟨fun h => ?_, fun h => ?_⟩
      · cases h
      refine AW.skip ?_; simp only [thenQ, blockQ, reduceIte, Nat.reduceEqDiff]
      refine AW.reg cd12_20 fun K hK => ?_
      simp only [g12_20, bR, Nat.reduceEqDiff, reduceIte, Int.reduceBNe, Int.reduceBEq]
      refine .done (hK _ ?_); clear hK K; simp only [thenQ, blockQ]
      refine ⟨s + 1, by omega, by omega, ?_⟩
      rw [hstep, wrap_id _ (by omega) (by omega)]
      simp only [Bool.false_and, Bool.false_eq_true, if_false]
      refine Sub.of_lists ?_ ?_ ?_ ?_ <;> simp [subT, subO, onlyT, onlyO, isIn, look_cons, lookO_cons, lookO_nil, AV.only, AV.onlys, AO.only, onlys_map, onlys_append, e_only, e_int, e_bool]
    · try simp only [typR, useR, okR, e_fin, bR, Nat.reduceEqDiff, reduceIte, Int.reduceBNe, Int.reduceBEq]
      refine .flat _ (F67 m.wear poss set (by rw [hposs]; exact hpm) hset) rfl ?_
      try simp only [typR, useR, okR, e_fin, bR, Nat.reduceEqDiff, reduceIte, Int.reduceBNe, Int.reduceBEq]
      refine .done (hK _ ?_); clear hK K; simp only [thenQ, blockQ]
      refine AW.ite ?_
      simp only [condQ, bR, Nat.reduceEqDiff, reduceIte, Int.reduceBNe, Int.reduceBEq]
      refine ⟨fun h => ?_, fun h => ?_⟩
      · refine AW.reg cd12_19 fun K hK => ?_
        simp only [g12_19, bR, Nat.reduceEqDiff, reduceIte, Int.reduceBNe, Int.reduceBEq]
        refine .done (hK _ ?_); clear hK K; simp only [thenQ, blockQ]
        refine AW.reg cd12_20 fun K hK => ?_
        simp only [g12_20, bR, Nat.reduceEqDiff, reduceIte, Int.reduceBNe, Int.reduceBEq]
        refine .done (hK _ ?_); clear hK K; simp only [thenQ, blockQ]
        refine ⟨s + 1, by omega, by omega, ?_⟩
        rw [hstep, wrap_id _ (by omega) (by omega)]
        have h' : settled m.wear poss set = true := h
        simp only [h', Bool.true_and, if_true]
        refine Sub.of_lists ?_ ?_ ?_ ?_ <;> simp [subT, subO, onlyT, onlyO, isIn, look_cons, lookO_cons, lookO_nil, AV.only, AV.onlys, AO.only, onlys_map, onlys_append, e_only, e_int, e_bool]
      · refine AW.skip ?_; simp only [thenQ, blockQ, reduceIte, Nat.reduceEqDiff]
        refine AW.reg cd12_20 fun K hK => ?_
        simp only [g12_20, bR, Nat.reduceEqDiff, reduceIte, Int.reduceBNe, Int.reduceBEq]
        refine .done (hK _ ?_); clear hK K; simp only [thenQ, blockQ]
        refine ⟨s + 1, by omega, by omega, ?_⟩
        rw [hstep, wrap_id _ (by omega) (by omega)]
        have h' : settled m.wear poss set = false := h
        simp only [h', Bool.true_and, Bool.false_eq_true, if_false]
        refine Sub.of_lists ?_ ?_ ?_ ?_ <;> simp [subT, subO, onlyT, onlyO, isIn, look_cons, lookO_cons, lookO_nil, AV.only, AV.onlys, AO.only, onlys_map, onlys_append, e_only, e_int, e_bool]
  refine AW.seq (AW.reg cd12_4 fun K hK => ?_)
  simp only [g12_4, bR, Nat.reduceEqDiff, reduceIte, Int.reduceBNe, Int.reduceBEq]
  simp only [typR, useR, okR, e_fin, bR, Nat.reduceEqDiff, reduceIte, Int.reduceBNe, Int.reduceBEq]
  refine .obj false [(7, 25)] [] [enc m, enc r] (possPost 7 m r) rfl (F65 m r (okM_mark hw) hlen) Gvn.nil ⟨.inl ⟨(e_ren _ _).symm, e_only _ _, e_isVal _⟩, .inl ⟨(e_ren _ _).symm, e_only _ _, e_isVal _⟩, trivial⟩ ?_ ?_
  · rintro x os' (⟨_, rfl, rfl⟩ | ⟨k, rfl, rfl⟩)
    · exact Bck.nil (fun _ => rfl) (fun h => by cases h)
    · exact Bck.new1 (fun p => map_only p _) (fun h => by cases h) rfl (fun h => by cases h) rfl (by decide)
  · rintro x os' (⟨hp, rfl, rfl⟩ | ⟨k, rfl, rfl⟩)
    · simp only [e_ren, renR, List.nil_append, e_fin, bR, Nat.reduceEqDiff, reduceIte, Int.reduceBNe, Int.reduceBEq]
      refine .done (hK _ ?_); clear hK K; simp only [thenQ, blockQ]
      refine AW.sub ?_ (key _ rfl)
      rw [hposs, hp]
      refine Sub.of_lists ?_ ?_ ?_ ?_ <;> simp [subT, subO, onlyT, onlyO, isIn, look_cons, lookO_cons, lookO_nil, AV.only, AV.onlys, AO.only, onlys_map, onlys_append, e_only, e_int, e_bool]
    · simp only [rowG, renR, rens_map_enc, List.cons_append, List.nil_append, bR, Nat.reduceEqDiff, reduceIte, Int.reduceBNe, Int.reduceBEq]
      refine .done (hK _ ?_); clear hK K; simp only [thenQ, blockQ]
      refine AW.sub (Sub.freeL (y := enc poss) [25] 7 rfl ?_ ?_ ?_ ?_ ?_ ?_) (key _ rfl)
      · simp only [keepO, List.filter_cons, List.filter_nil, List.contains_cons, List.contains_nil, Nat.reduceBEq, Bool.or_false, Bool.or_true, Bool.true_or, BEq.rfl, finV_take (α := Given) (sz := 7) rfl, take_row, hposs, bR, Nat.reduceEqDiff, reduceIte, Int.reduceBNe, Int.reduceBEq]
      · simp [dropO, onlyO, AO.only, e_only]
      · simp [subT, fgt, look_cons, AV.only]
      · simp [subO, dropO, lookO_cons]
      · simp [onlyT, isIn, lookO_cons, AV.only, e_only]
      · simp [onlyO, AO.only, e_only]
end Go.Proofs.Ytkjkbpgdpnapfaa

/-
  FUNCTIONS OF mark BY CONTRACT: arePlaces, list.
-/
namespace Go.Proofs.Ytkjkbpgdpnapfaa
open Go Go.Abs
open Go.Abs.Enc (enc)
theorem F71 (l : List Int) : Ctr Try.prog 71 [enc l] (enc (okPlaces l)) := by
  refine Ctr.mk' Try.func71 ca71 cc71 cr71 (Nat.le_of_ble_eq_true rfl) (fun hwf W0 D0 E1 => ?_)
  simp only [c71, r71, idx, Nat.zero_add, Nat.reduceAdd]
  have hlen : l.length ≤ maxLen := ((wf_list l).1 hwf.1).1
  simp only [maxLen] at hlen
  refine AW.seq (AW.reg cd71_0 fun K hK => ?_)
  simp only [g71_0, bR, Nat.reduceEqDiff, reduceIte, Int.reduceBNe, Int.reduceBEq]
  refine .done (hK _ ?_); clear hK K; simp only [thenQ, blockQ]
  refine AW.seq ?_
  refine AW.seq (AW.reg cd71_1 fun K hK => ?_)
  simp only [g71_1, bR, Nat.reduceEqDiff, reduceIte, Int.reduceBNe, Int.reduceBEq]
  try simp only [typR, useR, okR, e_fin, bR, Nat.reduceEqDiff, reduceIte, Int.reduceBNe, Int.reduceBEq]
  refine .done (hK _ ?_); clear hK K; simp only [thenQ, blockQ]
  refine AW.block (AW.loop (fun i : Nat => mkA [(0, enc l), (5, enc l), (6, .int .i64 l.length), (7, .int .i64 i)] []) (fun i => i ≤ l.length ∧ ∀ j, j < i → placeAt l j = true) (fun i => l.length - i) 0 ⟨by omega, fun k h => by omega⟩ ?_ (fun i hi => ?_))
  · refine Sub.of_lists ?_ ?_ ?_ ?_ <;> simp [subT, subO, onlyT, onlyO, isIn, look_cons, lookO_cons, lookO_nil, AV.only, AV.onlys, AO.only, onlys_map, onlys_append, e_only, e_int, e_bool]
  refine AW.seq (AW.reg cd71_2 fun K hK => ?_)
  simp only [g71_2, bR, Nat.reduceEqDiff, reduceIte, Int.reduceBNe, Int.reduceBEq]
  refine .done (hK _ ?_); clear hK K; simp only [thenQ, blockQ]
  refine AW.seq ?_
  refine AW.ite ?_
  simp only [condQ, bR, Nat.reduceEqDiff, reduceIte, Int.reduceBNe, Int.reduceBEq]
  refine ⟨fun h => ?_, fun h => ?_⟩
  case refine_2.refine_2 =>
    have hge : i = l.length := by simp at h; omega
    subst hge
    refine AW.exit ?_; simp only [thenQ, blockQ, reduceIte, Nat.reduceEqDiff]
    refine AW.seq (AW.reg cd71_7 fun K hK => ?_)
    simp only [g71_7, bR, Nat.reduceEqDiff, reduceIte, Int.reduceBNe, Int.reduceBEq]
    refine .done (hK _ ?_); clear hK K; simp only [thenQ, blockQ]
    refine AW.ret ?_
    simp only [blockQ, thenQ, bR, Nat.reduceEqDiff, reduceIte, Int.reduceBNe, Int.reduceBEq]
    rw [okPlaces, all_true hi.2]
  have hlt : i < l.length := by simpa using h
  have bad : placeAt l i = false → okPlaces l = false := fun h => all_false i hlt h
  refine AW.skip ?_; simp only [thenQ, blockQ, reduceIte, Nat.reduceEqDiff]
  refine AW.seq (AW.block ?_)
  refine AW.seq (AW.reg cd71_3 fun K hK => ?_)
  simp only [g71_3, bR, Nat.reduceEqDiff, reduceIte, Int.reduceBNe, Int.reduceBEq]
  simp only [typR, useR, okR, isE_getD hlt, bR, Nat.reduceEqDiff, reduceIte, Int.reduceBNe, Int.reduceBEq]
  refine .done (hK _ ?_); clear hK K; simp only [thenQ, blockQ]
  refine AW.seq (AW.reg cd71_4 fun K hK => ?_)
  simp only [g71_4, bR, Nat.reduceEqDiff, reduceIte, Int.reduceBNe, Int.reduceBEq]
  try simp only [typR, useR, okR, e_fin, bR, Nat.reduceEqDiff, reduceIte, Int.reduceBNe, Int.reduceBEq]
  refine .flat _ (F89 (l.getD i 0) 0 5) rfl ?_
  generalize hr : inR 0 5 (l.getD i 0) = br
  cases br
  · try simp only [typR, useR, okR, e_fin, bR, Nat.reduceEqDiff, reduceIte, Int.reduceBNe, Int.reduceBEq]
    refine .done (hK _ ?_); clear hK K; simp only [thenQ, blockQ]
    refine AW.ite ?_
    simp only [condQ, bR, Nat.reduceEqDiff, reduceIte, Int.reduceBNe, Int.reduceBEq]
    refine ⟨fun h => ?_, fun h => ?_⟩
    · refine AW.seq (AW.reg cd71_5 fun K hK => ?_)
      simp only [g71_5, bR, Nat.reduceEqDiff, reduceIte, Int.reduceBNe, Int.reduceBEq]
      refine .done (hK _ ?_); clear hK K; simp only [thenQ, blockQ]
      refine AW.ret ?_
      simp only [blockQ, thenQ, bR, Nat.reduceEqDiff, reduceIte, Int.reduceBNe, Int.reduceBEq]
      rw [bad (by simp only [placeAt, hr, Bool.false_and])]
    · cases h
  try simp only [typR, useR, okR, e_fin, bR, Nat.reduceEqDiff, reduceIte, Int.reduceBNe, Int.reduceBEq]
  generalize hz : decide (0 < (i : Int)) = bz
  cases bz
  · have hz' : i = 0 := by simp at hz; omega
    try simp only [typR, useR, okR, e_fin, bR, Nat.reduceEqDiff, reduceIte, Int.reduceBNe, Int.reduceBEq]
    refine .done (hK _ ?_); clear hK K; simp only [thenQ, blockQ]
    refine AW.ite ?_
    simp only [condQ, bR, Nat.reduceEqDiff, reduceIte, Int.reduceBNe, Int.reduceBEq]
    refine ⟨fun h => ?_, fun h => ?_⟩
    · cases h
    refine AW.skip ?_; simp only [thenQ, blockQ, reduceIte, Nat.reduceEqDiff]
    refine AW.reg cd71_6 fun K hK => ?_
    simp only [g71_6, bR, Nat.reduceEqDiff, reduceIte, Int.reduceBNe, Int.reduceBEq]
    refine .done (hK _ ?_); clear hK K; simp only [thenQ, blockQ]
    refine ⟨i + 1, ⟨by omega, fun k hk' => ?_⟩, by omega, ?_⟩
    · by_cases hki : k = i
      · rw [hki, placeAt, hr]; simp [hz']
      · exact hi.2 k (by omega)
    · rw [wrap_id _ (by omega) (by omega)]
      refine Sub.of_lists ?_ ?_ ?_ ?_ <;> simp [subT, subO, onlyT, onlyO, isIn, look_cons, lookO_cons, lookO_nil, AV.only, AV.onlys, AO.only, onlys_map, onlys_append, e_only, e_int, e_bool]
  · have hpos : 0 < i := by simpa using hz
    have hpl : i - 1 < l.length := by omega
    have hpred : IntKind.i64.wrap ((i : Int) - 1) = ((i - 1 : Nat) : Int) := by rw [wrap_id _ (by omega) (by omega)]; omega
    simp only [typR, useR, okR, hpred, isE_getD hpl, isE_getD hlt, bR, Nat.reduceEqDiff, reduceIte, Int.reduceBNe, Int.reduceBEq]
    refine .done (hK _ ?_); clear hK K; simp only [thenQ, blockQ]
    refine AW.ite ?_
    simp only [condQ, bR, Nat.reduceEqDiff, reduceIte, Int.reduceBNe, Int.reduceBEq]
    refine ⟨fun h => ?_, fun h => ?_⟩
    · refine AW.seq (AW.reg cd71_5 fun K hK => ?_)
      simp only [g71_5, bR, Nat.reduceEqDiff, reduceIte, Int.reduceBNe, Int.reduceBEq]
      refine .done (hK _ ?_); clear hK K; simp only [thenQ, blockQ]
      refine AW.ret ?_
      simp only [blockQ, thenQ, bR, Nat.reduceEqDiff, reduceIte, Int.reduceBNe, Int.reduceBEq]
      have : (i == 0 || decide (l.getD (i - 1) 0 < l.getD i 0)) = false := by
        have h1 : l.getD i 0 ≤ l.getD (i - 1) 0 := of_decide_eq_true h
        have h2 : ¬ (l.getD (i - 1) 0 < l.getD i 0) := by omega
        have h3 : ¬ i = 0 := by omega
        simp only [decide_eq_false h2, Bool.or_false, beq_eq_false_iff_ne, ne_eq, h3, not_false_eq_true]
      rw [bad (by simp only [placeAt, this, Bool.and_false])]
    have hprev : (i == 0 || decide (l.getD (i - 1) 0 < l.getD i 0)) = true := by
      have h1 : ¬ (l.getD i 0 ≤ l.getD (i - 1) 0) := of_decide_eq_false h
      have h2 : l.getD (i - 1) 0 < l.getD i 0 := by omega
      simp only [decide_eq_true h2, Bool.or_true]
    refine AW.skip ?_; simp only [thenQ, blockQ, reduceIte, Nat.reduceEqDiff]
    refine AW.reg cd71_6 fun K hK => ?_
    simp only [g71_6, bR, Nat.reduceEqDiff, reduceIte, Int.reduceBNe, Int.reduceBEq]
    refine .done (hK _ ?_); clear hK K; simp only [thenQ, blockQ]
    refine ⟨i + 1, ⟨by omega, fun k hk' => ?_⟩, by omega, ?_⟩
    · by_cases hki : k = i
      · rw [hki, placeAt, hr, hprev]; rfl
      · exact hi.2 k (by omega)
    · rw [wrap_id _ (by omega) (by omega)]
      refine Sub.of_lists ?_ ?_ ?_ ?_ <;> simp [subT, subO, onlyT, onlyO, isIn, look_cons, lookO_cons, lookO_nil, AV.only, AV.onlys, AO.only, onlys_map, onlys_append, e_only, e_int, e_bool]
theorem F81 (w : Int) (h0 : 0 ≤ w) (h1 : w ≤ 31) : Ctr Try.prog 81 [enc w] (enc (members w 5)) := by
  refine Ctr.mk' Try.func81 ca81 cc81 cr81 (Nat.le_of_ble_eq_true rfl) (fun hwf W0 D0 E1 => ?_)
  simp only [c81, r81, idx, Nat.zero_add, Nat.reduceAdd]
  refine AW.seq (AW.reg cd81_0 fun K hK => ?_)
  simp only [g81_0, bR, Nat.reduceEqDiff, reduceIte, Int.reduceBNe, Int.reduceBEq]
  refine .done (hK _ ?_); clear hK K; simp only [thenQ, blockQ]
  refine AW.seq (AW.reg cd81_1 fun K hK => ?_)
  simp only [g81_1, bR, Nat.reduceEqDiff, reduceIte, Int.reduceBNe, Int.reduceBEq]
  refine .done (hK _ ?_); clear hK K; simp only [thenQ, blockQ]
  refine AW.seq ?_
  refine AW.seq (AW.reg cd81_2 fun K hK => ?_)
  simp only [g81_2, bR, Nat.reduceEqDiff, reduceIte, Int.reduceBNe, Int.reduceBEq]
  refine .done (hK _ ?_); clear hK K; simp only [thenQ, blockQ]
  refine AW.block (AW.loop (fun i : Nat => mkA [(0, .int .i64 w), (3, .own 3 (members w i).length), (5, .int .i64 i)] [(3, .row 3 1 ((members w i).map enc))]) (fun i => i ≤ 5) (fun i => 5 - i) 0 (by omega) ?_ (fun i hi => ?_))
  · refine Sub.adoptL 3 3 3 1 1 ?_ ?_ ?_
    · simp only [absR, Nat.reduceEqDiff, reduceIte]
    · simp only [absR]
    · simp only [members, List.map_nil, List.length_nil]
      refine Sub.of_lists ?_ ?_ ?_ ?_ <;> simp [subT, subO, onlyT, onlyO, isIn, look_cons, lookO_cons, lookO_nil, AV.only, AV.onlys, AO.only, onlys_map, onlys_append, e_only, e_int, e_bool]
  refine AW.seq (AW.reg cd81_3 fun K hK => ?_)
  simp only [g81_3, bR, Nat.reduceEqDiff, reduceIte, Int.reduceBNe, Int.reduceBEq]
  refine .done (hK _ ?_); clear hK K; simp only [thenQ, blockQ]
  refine AW.seq ?_
  refine AW.ite ?_
  simp only [condQ, bR, Nat.reduceEqDiff, reduceIte, Int.reduceBNe, Int.reduceBEq]
  refine ⟨fun h => ?_, fun h => ?_⟩
  · have hlt : i < 5 := by simp at h; omega
    have hml := members_le w i
    refine AW.skip ?_; simp only [thenQ, blockQ, reduceIte, Nat.reduceEqDiff]
    refine AW.seq (AW.block ?_)
    refine AW.seq (AW.reg cd81_4 fun K hK => ?_)
    simp only [g81_4, bR, Nat.reduceEqDiff, reduceIte, Int.reduceBNe, Int.reduceBEq]
    refine .done (hK _ ?_); clear hK K; simp only [thenQ, blockQ]
    refine AW.seq ?_
    refine AW.reg cd81_5 fun K hK => ?_
    simp only [g81_5, bR, Nat.reduceEqDiff, reduceIte, Int.reduceBNe, Int.reduceBEq]
    refine .flat _ (F110 w i) rfl ?_
    simp only [has_bit w h0 h1 i hlt]
    try simp only [typR, useR, okR, e_fin, bR, Nat.reduceEqDiff, reduceIte, Int.reduceBNe, Int.reduceBEq]
    refine .done (hK _ ?_); clear hK K; simp only [thenQ, blockQ]
    refine AW.ite ?_
    simp only [condQ, bR, Nat.reduceEqDiff, reduceIte, Int.reduceBNe, Int.reduceBEq]
    refine ⟨fun h => ?_, fun h => ?_⟩
    · have hb : bit w i = true := h
      refine AW.reg cd81_6 fun K hK => ?_
      simp only [g81_6, bR, Nat.reduceEqDiff, reduceIte, Int.reduceBNe, Int.reduceBEq]
      rw [appR3_enc 3 1 8 3 rfl rfl (by simp) (by simp [maxLen]; omega) (by simp; omega)]
      simp only [bR, Nat.reduceEqDiff, reduceIte, Int.reduceBNe, Int.reduceBEq]
      refine .done (hK _ ?_); clear hK K; simp only [thenQ, blockQ]
      refine AW.reg cd81_7 fun K hK => ?_
      simp only [g81_7, bR, Nat.reduceEqDiff, reduceIte, Int.reduceBNe, Int.reduceBEq]
      refine .done (hK _ ?_); clear hK K; simp only [thenQ, blockQ]
      refine ⟨i + 1, by omega, by omega, ?_⟩
      rw [wrap_id _ (by omega) (by omega)]
      simp only [members, hb, reduceIte]
      refine Sub.of_lists ?_ ?_ ?_ ?_ <;> simp [subT, subO, onlyT, onlyO, isIn, look_cons, lookO_cons, lookO_nil, AV.only, AV.onlys, AO.only, onlys_map, onlys_append, e_only, e_int, e_bool]
    · have hb : bit w i = false := h
      refine AW.skip ?_; simp only [thenQ, blockQ, reduceIte, Nat.reduceEqDiff]
      refine AW.reg cd81_7 fun K hK => ?_
      simp only [g81_7, bR, Nat.reduceEqDiff, reduceIte, Int.reduceBNe, Int.reduceBEq]
      refine .done (hK _ ?_); clear hK K; simp only [thenQ, blockQ]
      refine ⟨i + 1, by omega, by omega, ?_⟩
      rw [wrap_id _ (by omega) (by omega)]
      simp only [members, hb, reduceIte, Bool.false_eq_true, List.append_nil]
      refine Sub.of_lists ?_ ?_ ?_ ?_ <;> simp [subT, subO, onlyT, onlyO, isIn, look_cons, lookO_cons, lookO_nil, AV.only, AV.onlys, AO.only, onlys_map, onlys_append, e_only, e_int, e_bool]
  · have hge : i = 5 := by simp at h; omega
    subst hge
    refine AW.exit ?_; simp only [thenQ, blockQ, reduceIte, Nat.reduceEqDiff]
    refine AW.seq (AW.reg cd81_8 fun K hK => ?_)
    simp only [g81_8, bR, Nat.reduceEqDiff, reduceIte, Int.reduceBNe, Int.reduceBEq]
    refine .done (hK _ ?_); clear hK K; simp only [thenQ, blockQ]
    refine AW.ret ?_
    simp only [blockQ, thenQ, bR, Nat.reduceEqDiff, reduceIte, Int.reduceBNe, Int.reduceBEq]
end Go.Proofs.Ytkjkbpgdpnapfaa

/-
  FUNCTIONS OF mark BY CONTRACT: Looked.
-/
namespace Go.Proofs.Ytkjkbpgdpnapfaa
open Go Go.Abs
open Go.Abs.Enc (enc)
theorem okPlaces_in {l : List Int} (h : okPlaces l = true) : ∀ k ∈ l, 0 ≤ k ∧ k < 6 := by
  intro k hk
  simp only [okPlaces, List.all_eq_true, List.mem_range] at h
  obtain ⟨i, hi, rfl⟩ := List.getElem_of_mem hk
  have := h i hi
  simp only [placeAt, inR, List.getD_eq_getElem?_getD, List.getElem?_eq_getElem hi, Option.getD_some, Bool.and_eq_true, decide_eq_true_eq] at this
  omega
theorem F76 (m : Marks) (g : Given) (worn : Arr 6 Int) (k : Nat) (hk : k < 6) (hg : okMark g.mark = true) : Ctr Try.prog 76 (enc (k : Int) :: [.ref (enc m), .ref (enc g), .ref (enc worn)]) (enc (band (m.wear.g (g.mark.g k).toNat) (worn.g k) == 0)) := by
  refine Ctr.mk' Try.func76 ca76 cc76 cr76 (Nat.le_of_ble_eq_true rfl) (fun hwf W0 D0 E1 => ?_)
  simp only [c76, r76, idx, Nat.zero_add, Nat.reduceAdd]
  have h1 := okMark_at hg hk
  refine AW.seq (AW.reg cd76_0 fun K hK => ?_)
  simp only [g76_0, bR, Nat.reduceEqDiff, reduceIte, Int.reduceBNe, Int.reduceBEq]
  refine .done (hK _ ?_); clear hK K; simp only [thenQ, blockQ]
  refine AW.seq (AW.reg cd76_1 fun K hK => ?_)
  simp only [g76_1, bR, Nat.reduceEqDiff, reduceIte, Int.reduceBNe, Int.reduceBEq]
  try simp only [typR, useR, okR, e_fin, bR, Nat.reduceEqDiff, reduceIte, Int.reduceBNe, Int.reduceBEq]
  refine .flat _ (F77 m.wear g.mark k hk h1.1 h1.2) rfl ?_
  simp only [typR, useR, okR, inB_nat 1 worn hk rfl, atL_g worn hk, get_g worn hk, bR, Nat.reduceEqDiff, reduceIte, Int.reduceBNe, Int.reduceBEq]
  refine .flat _ (F78 _ _) rfl ?_
  try simp only [typR, useR, okR, e_fin, bR, Nat.reduceEqDiff, reduceIte, Int.reduceBNe, Int.reduceBEq]
  refine .done (hK _ ?_); clear hK K; simp only [thenQ, blockQ]
  refine AW.ret ?_
  simp only [blockQ, thenQ, bR, Nat.reduceEqDiff, reduceIte, Int.reduceBNe, Int.reduceBEq]
  simp only [bne, Bool.not_not]
def clash (w : Arr 5 Int) (worn : Arr 6 Int) (places : List Int) (g : Given) : Bool := places.any fun k => band (w.g (g.mark.g k.toNat).toNat) (worn.g k.toNat) == 0
theorem F74 (m : Marks) (g : Given) (worn : Arr 6 Int) (places : List Int) (hg : okMark g.mark = true) (hp : ∀ k ∈ places, 0 ≤ k ∧ k < 6) : Ctr Try.prog 74 (enc g :: [.ref (enc places), .ref (enc m), .ref (enc worn)]) (enc (clash m.wear worn places g)) := by
  refine Ctr.mk' Try.func74 ca74 cc74 cr74 (Nat.le_of_ble_eq_true rfl) (fun hwf W0 D0 E1 => ?_)
  simp only [c74, r74, idx, Nat.zero_add, Nat.reduceAdd]
  refine AW.seq (AW.reg cd74_0 fun K hK => ?_)
  simp only [g74_0, bR, Nat.reduceEqDiff, reduceIte, Int.reduceBNe, Int.reduceBEq]
  simp only [e_isVal, bR, Nat.reduceEqDiff, reduceIte, Int.reduceBNe, Int.reduceBEq]
  refine .done (hK _ ?_); clear hK K; simp only [thenQ, blockQ]
  refine AW.seq (AW.reg cd74_1 fun K hK => ?_)
  simp only [g74_1, bR, Nat.reduceEqDiff, reduceIte, Int.reduceBNe, Int.reduceBEq]
  try simp only [typR, useR, okR, e_fin, bR, Nat.reduceEqDiff, reduceIte, Int.reduceBNe, Int.reduceBEq]
  try simp only [List.all_cons, List.all_nil, AV.isVal, Bool.and_true, Bool.and_self, if_true, e_isVal, e_closed, e_fin, bR, Nat.reduceEqDiff, reduceIte, Int.reduceBNe, Int.reduceBEq]
  try simp only [typR, useR, okR, e_fin, bR, Nat.reduceEqDiff, reduceIte, Int.reduceBNe, Int.reduceBEq]
  refine .flat _ (F75 places 76 [.ref (enc m), .ref (enc g), .ref (enc worn)] ?_ (fun k => band (m.wear.g (g.mark.g k.toNat).toNat) (worn.g k.toNat) == 0) (fun k hk => ?_)) rfl ?_
  · simp [AV.dones, AV.done, Enc.done, e_closed]
  · have hk2 := hp k hk
    have := F76 m g worn k.toNat (by omega) hg
    rwa [show ((k.toNat : Nat) : Int) = k by omega] at this
  try simp only [typR, useR, okR, e_fin, bR, Nat.reduceEqDiff, reduceIte, Int.reduceBNe, Int.reduceBEq]
  refine .done (hK _ ?_); clear hK K; simp only [thenQ, blockQ]
  refine AW.ret ?_
  simp only [blockQ, thenQ, bR, Nat.reduceEqDiff, reduceIte, Int.reduceBNe, Int.reduceBEq]
  rfl
def lookedG (m : Marks) (r worn : Arr 6 Int) (places : List Int) : List Given := keep (clash m.wear worn places) (possG m r)
def lookedOf (m : Marks) (r worn : Arr 6 Int) (places : List Int) : List Int × Int :=
  if okM m then (if okReading r then (if okReading worn then (if okPlaces places then ((lookedG m r worn places).map (·.owner), 0) else ([], 18)) else ([], 12)) else ([], 12)) else ([], 13)
theorem F14 (m : Marks) (r worn : Arr 6 Int) (places : List Int) : Ctr Try.prog 14 [enc m, enc r, enc worn, enc places] (.tuple [enc (lookedOf m r worn places).1, enc (lookedOf m r worn places).2]) := by
  refine Ctr.mk' Try.func14 ca14 cc14 cr14 (Nat.le_of_ble_eq_true rfl) (fun hwf W0 D0 E1 => ?_)
  simp only [c14, r14, idx, Nat.zero_add, Nat.reduceAdd]
  refine AW.seq (AW.reg cd14_0 fun K hK => ?_)
  simp only [g14_0, bR, Nat.reduceEqDiff, reduceIte, Int.reduceBNe, Int.reduceBEq]
  simp only [e_isVal, bR, Nat.reduceEqDiff, reduceIte, Int.reduceBNe, Int.reduceBEq]
  refine .done (hK _ ?_); clear hK K; simp only [thenQ, blockQ]
  refine AW.seq ?_
  refine AW.seq (AW.reg cd14_1 fun K hK => ?_)
  simp only [g14_1, bR, Nat.reduceEqDiff, reduceIte, Int.reduceBNe, Int.reduceBEq]
  try simp only [typR, useR, okR, e_fin, bR, Nat.reduceEqDiff, reduceIte, Int.reduceBNe, Int.reduceBEq]
  refine .flat _ (F47 m) rfl ?_
  try simp only [typR, useR, okR, e_fin, bR, Nat.reduceEqDiff, reduceIte, Int.reduceBNe, Int.reduceBEq]
  refine .flat _ (F45 r) rfl ?_
  try simp only [typR, useR, okR, e_fin, bR, Nat.reduceEqDiff, reduceIte, Int.reduceBNe, Int.reduceBEq]
  refine .flat _ (F45 worn) rfl ?_
  simp only [typR, useR, okR, e_fin, bs3, bR, Nat.reduceEqDiff, reduceIte, Int.reduceBNe, Int.reduceBEq]
  refine .flat _ (F64 _) rfl ?_
  rw [first3 _ _ _ 13 12 12 (by decide) (by decide) (by decide)]
  simp only [bR, Nat.reduceEqDiff, reduceIte, Int.reduceBNe, Int.reduceBEq]
  refine .done (hK _ ?_); clear hK K; simp only [thenQ, blockQ]
  generalize hw : okM m = bw
  generalize hr : okReading r = br
  generalize hwo : okReading worn = bwo
  cases bw
  · refine AW.seq (AW.reg cd14_2 fun K hK => ?_)
    simp only [g14_2, bR, Nat.reduceEqDiff, reduceIte, Int.reduceBNe, Int.reduceBEq]
    refine .done (hK _ ?_); clear hK K; simp only [thenQ, blockQ]
    refine AW.ite ?_
    simp only [condQ, bR, Nat.reduceEqDiff, reduceIte, Int.reduceBNe, Int.reduceBEq]
    refine ⟨fun h => ?_, fun h => ?_⟩
    · refine AW.seq (AW.reg cd14_3 fun K hK => ?_)
      simp only [g14_3, bR, Nat.reduceEqDiff, reduceIte, Int.reduceBNe, Int.reduceBEq]
      refine .done (hK _ ?_); clear hK K; simp only [thenQ, blockQ]
      refine AW.ret ?_
      simp only [blockQ, thenQ, bR, Nat.reduceEqDiff, reduceIte, Int.reduceBNe, Int.reduceBEq]
      simp [lookedOf, hw, nilInt]
    · cases h
  cases br
  · refine AW.seq (AW.reg cd14_2 fun K hK => ?_)
    simp only [g14_2, bR, Nat.reduceEqDiff, reduceIte, Int.reduceBNe, Int.reduceBEq]
    refine .done (hK _ ?_); clear hK K; simp only [thenQ, blockQ]
    refine AW.ite ?_
    simp only [condQ, bR, Nat.reduceEqDiff, reduceIte, Int.reduceBNe, Int.reduceBEq]
    refine ⟨fun h => ?_, fun h => ?_⟩
    · refine AW.seq (AW.reg cd14_3 fun K hK => ?_)
      simp only [g14_3, bR, Nat.reduceEqDiff, reduceIte, Int.reduceBNe, Int.reduceBEq]
      refine .done (hK _ ?_); clear hK K; simp only [thenQ, blockQ]
      refine AW.ret ?_
      simp only [blockQ, thenQ, bR, Nat.reduceEqDiff, reduceIte, Int.reduceBNe, Int.reduceBEq]
      simp [lookedOf, hw, hr, nilInt]
    · cases h
  cases bwo
  · refine AW.seq (AW.reg cd14_2 fun K hK => ?_)
    simp only [g14_2, bR, Nat.reduceEqDiff, reduceIte, Int.reduceBNe, Int.reduceBEq]
    refine .done (hK _ ?_); clear hK K; simp only [thenQ, blockQ]
    refine AW.ite ?_
    simp only [condQ, bR, Nat.reduceEqDiff, reduceIte, Int.reduceBNe, Int.reduceBEq]
    refine ⟨fun h => ?_, fun h => ?_⟩
    · refine AW.seq (AW.reg cd14_3 fun K hK => ?_)
      simp only [g14_3, bR, Nat.reduceEqDiff, reduceIte, Int.reduceBNe, Int.reduceBEq]
      refine .done (hK _ ?_); clear hK K; simp only [thenQ, blockQ]
      refine AW.ret ?_
      simp only [blockQ, thenQ, bR, Nat.reduceEqDiff, reduceIte, Int.reduceBNe, Int.reduceBEq]
      simp [lookedOf, hw, hr, hwo, nilInt]
    · cases h
  refine AW.seq (AW.reg cd14_2 fun K hK => ?_)
  simp only [g14_2, bR, Nat.reduceEqDiff, reduceIte, Int.reduceBNe, Int.reduceBEq]
  refine .done (hK _ ?_); clear hK K; simp only [thenQ, blockQ]
  refine AW.ite ?_
  simp only [condQ, bR, Nat.reduceEqDiff, reduceIte, Int.reduceBNe, Int.reduceBEq]
  refine ⟨fun h => ?_, fun h => ?_⟩
  · cases h
  refine AW.skip ?_; simp only [thenQ, blockQ, reduceIte, Nat.reduceEqDiff]
  refine AW.seq ?_
  refine AW.seq (AW.reg cd14_4 fun K hK => ?_)
  simp only [g14_4, bR, Nat.reduceEqDiff, reduceIte, Int.reduceBNe, Int.reduceBEq]
  try simp only [typR, useR, okR, e_fin, bR, Nat.reduceEqDiff, reduceIte, Int.reduceBNe, Int.reduceBEq]
  refine .flat _ (F71 places) rfl ?_
  generalize hpl : okPlaces places = bp
  cases bp
  · try simp only [typR, useR, okR, e_fin, bR, Nat.reduceEqDiff, reduceIte, Int.reduceBNe, Int.reduceBEq]
    refine .done (hK _ ?_); clear hK K; simp only [thenQ, blockQ]
    refine AW.ite ?_
    simp only [condQ, bR, Nat.reduceEqDiff, reduceIte, Int.reduceBNe, Int.reduceBEq]
    refine ⟨fun h => ?_, fun h => ?_⟩
    · refine AW.seq (AW.reg cd14_5 fun K hK => ?_)
      simp only [g14_5, bR, Nat.reduceEqDiff, reduceIte, Int.reduceBNe, Int.reduceBEq]
      refine .done (hK _ ?_); clear hK K; simp only [thenQ, blockQ]
      refine AW.ret ?_
      simp only [blockQ, thenQ, bR, Nat.reduceEqDiff, reduceIte, Int.reduceBNe, Int.reduceBEq]
      simp [lookedOf, hw, hr, hwo, hpl, nilInt]
    · cases h
  try simp only [typR, useR, okR, e_fin, bR, Nat.reduceEqDiff, reduceIte, Int.reduceBNe, Int.reduceBEq]
  refine .done (hK _ ?_); clear hK K; simp only [thenQ, blockQ]
  refine AW.ite ?_
  simp only [condQ, bR, Nat.reduceEqDiff, reduceIte, Int.reduceBNe, Int.reduceBEq]
  refine ⟨fun h => ?_, fun h => ?_⟩
  · cases h
  refine AW.skip ?_; simp only [thenQ, blockQ, reduceIte, Nat.reduceEqDiff]
  have hpi := okPlaces_in hpl
  have hlen : m.given.length ≤ 1000 := by have := okM_len hw; omega
  have hps : (possG m r).length ≤ 1000 := Nat.le_trans (List.length_filter_le _ _) hlen
  have hpm : ∀ g ∈ possG m r, okMark g.mark = true := fun g hg => okM_mark hw g (possG_mem hg)
  have hld : (lookedG m r worn places).length ≤ 1000 := Nat.le_trans (List.length_filter_le _ _) hps
  have hd : AV.dones [.ref (enc places), .ref (enc m), .ref (enc worn)] = true := by simp only [AV.dones, AV.done, e_closed, Bool.and_self]
  refine AW.seq (AW.reg cd14_6 fun K hK => ?_)
  simp only [g14_6, bR, Nat.reduceEqDiff, reduceIte, Int.reduceBNe, Int.reduceBEq]
  try simp only [typR, useR, okR, e_fin, bR, Nat.reduceEqDiff, reduceIte, Int.reduceBNe, Int.reduceBEq]
  refine .obj false [(7, 27)] [] [enc m, enc r] (possPost 7 m r) rfl (F65 m r (okM_mark hw) hlen) Gvn.nil ⟨.inl ⟨(e_ren _ _).symm, e_only _ _, e_isVal _⟩, .inl ⟨(e_ren _ _).symm, e_only _ _, e_isVal _⟩, trivial⟩ ?_ ?_
  · rintro x os' (⟨_, rfl, rfl⟩ | ⟨k, rfl, rfl⟩)
    · exact Bck.nil (fun _ => rfl) (fun h => by cases h)
    · exact Bck.new1 (fun p => map_only p _) (fun h => by cases h) rfl (fun h => by cases h) rfl (by decide)
  · rintro x os' (⟨hp, rfl, rfl⟩ | ⟨k, rfl, rfl⟩)
    · have hlk : lookedG m r worn places = [] := by simp [lookedG, keep, hp]
      simp only [e_ren, renR, List.nil_append, e_fin, List.all_cons, List.all_nil, AV.isVal, Bool.and_self, e_closed, bR, Nat.reduceEqDiff, reduceIte, Int.reduceBNe, Int.reduceBEq]
      refine .free [7, 4, 6] (enc ([] : List Given)) rfl (F73n 74 [.ref (enc places), .ref (enc m), .ref (enc worn)] hd) ?_ ?_ ?_
      · simp only [keepO, List.filter_cons, List.filter_nil, List.contains_cons, List.contains_nil, Nat.reduceBEq, Bool.or_false, Bool.or_true, Bool.true_or, Bool.false_or, BEq.rfl, e_closed, e_fin, bR, Nat.reduceEqDiff, reduceIte, Int.reduceBNe, Int.reduceBEq]
      · simp [dropO, onlyO, AO.only, e_only]
      · simp only [fgt, dropO, List.filter_cons, List.filter_nil, List.contains_cons, List.contains_nil, Nat.reduceBEq, Bool.or_false, Bool.or_true, Bool.true_or, Bool.false_or, BEq.rfl, e_fin, bR, Nat.reduceEqDiff, reduceIte, Int.reduceBNe, Int.reduceBEq]
        refine .lead _ (F72 [] (by simp)) ?_
        simp only [List.map_nil, bR, Nat.reduceEqDiff, reduceIte, Int.reduceBNe, Int.reduceBEq]
        refine .done (hK _ ?_); clear hK K; simp only [thenQ, blockQ]
        refine AW.ret ?_
        simp only [blockQ, thenQ, bR, Nat.reduceEqDiff, reduceIte, Int.reduceBNe, Int.reduceBEq]
        simp only [e_fin, bR, Nat.reduceEqDiff, reduceIte, Int.reduceBNe, Int.reduceBEq]
        simp [lookedOf, hw, hr, hwo, hpl, hlk]
    · simp only [rowG, renR, rens_map_enc, List.cons_append, List.nil_append, List.all_cons, List.all_nil, AV.isVal, Bool.and_self, bR, Nat.reduceEqDiff, reduceIte, Int.reduceBNe, Int.reduceBEq]
      refine .obj true [(1000000, 27)] (rowG 1000000 (possG m r) k) [.view 1000000 [] 7 0 (possG m r).length, .func 74 [.ref (enc places), .ref (enc m), .ref (enc worn)]] (delPost 1000000 (lookedG m r worn places)) rfl
        (F73 (possG m r) 74 [.ref (enc places), .ref (enc m), .ref (enc worn)] hd (clash m.wear worn places) (fun g hg => F74 m g worn places (hpm g hg) hpi) hps k) ⟨?_, ?_⟩ ⟨.inl ⟨?_, ?_, rfl⟩, .inr ?_, trivial⟩ ?_ ?_
      · intro n x h
        simp only [rowG, lookO] at h
        split at h
        · rename_i hn'
          subst hn'
          simp only [Option.some.injEq] at h
          subst h
          exact ⟨by simp only [renR, rens_map_enc, bR, Nat.reduceEqDiff, reduceIte, Int.reduceBNe, Int.reduceBEq], map_only _ _, rfl⟩
        · cases h
      · intro a b ha hb _
        rw [isIn_one.1 ha, isIn_one.1 hb]
      · simp only [renR, bR, Nat.reduceEqDiff, reduceIte, Int.reduceBNe, Int.reduceBEq]
      · exact isIn_one.2 rfl
      · simp only [names, rowG, rnm, dropO, List.filter_cons, List.filter_nil, List.map_cons, List.map_nil, List.contains_cons, List.contains_nil, Nat.reduceBEq, Bool.or_false, Bool.or_true, Bool.true_or, Bool.false_or, BEq.rfl, e_closed, e_fin, bR, Nat.reduceEqDiff, reduceIte, Int.reduceBNe, Int.reduceBEq]
      · rintro x os' ⟨k', rfl, rfl⟩
        exact Bck.one (fun p => map_only p _) (fun _ => map_lean _) (isIn_one.2 rfl) (fun _ => rfl)
      · rintro x os' ⟨k', rfl, rfl⟩
        simp only [rowG, renR, rens_map_enc, List.cons_append, List.nil_append, bR, Nat.reduceEqDiff, reduceIte, Int.reduceBNe, Int.reduceBEq]
        refine .free [27] _ rfl (F72 (lookedG m r worn places) hld) ?_ ?_ ?_
        · simp only [keepO, List.filter_cons, List.filter_nil, List.contains_cons, List.contains_nil, Nat.reduceBEq, Bool.or_false, Bool.or_true, Bool.true_or, Bool.false_or, BEq.rfl, finV_take (α := Given) (sz := 7) rfl, take_row, bR, Nat.reduceEqDiff, reduceIte, Int.reduceBNe, Int.reduceBEq]
        · simp [dropO, onlyO, AO.only, e_only]
        · simp only [fgt, dropO, List.filter_cons, List.filter_nil, List.contains_cons, List.contains_nil, Nat.reduceBEq, Bool.or_false, Bool.or_true, Bool.true_or, Bool.false_or, BEq.rfl, AV.only, e_only, bR, Nat.reduceEqDiff, reduceIte, Int.reduceBNe, Int.reduceBEq]
          refine .done (hK _ ?_); clear hK K; simp only [thenQ, blockQ]
          refine AW.ret ?_
          simp only [blockQ, thenQ, bR, Nat.reduceEqDiff, reduceIte, Int.reduceBNe, Int.reduceBEq]
          simp only [e_fin, bR, Nat.reduceEqDiff, reduceIte, Int.reduceBNe, Int.reduceBEq]
          simp [lookedOf, hw, hr, hwo, hpl]
end Go.Proofs.Ytkjkbpgdpnapfaa

/-
  FUNCTIONS OF mark BY CONTRACT: Worn.
-/
namespace Go.Proofs.Ytkjkbpgdpnapfaa
open Go Go.Abs
open Go.Abs.Enc (enc)
theorem members_mem {w : Int} {k : Nat} (h : bit w k = true) : ∀ n, k < n → (k : Int) ∈ members w n
  | 0, h => absurd h (by omega)
  | n + 1, hk => by
    simp only [members, List.mem_append]
    rcases Nat.lt_or_ge k n with h1 | h1
    · exact .inl (members_mem h n h1)
    · have : k = n := by omega
      subst this
      right; simp [h]
theorem members_in {w : Int} : ∀ n, ∀ x ∈ members w n, 0 ≤ x ∧ x < n
  | 0 => by simp [members]
  | n + 1 => by
    intro x hx
    simp only [members, List.mem_append] at hx
    rcases hx with hx | hx
    · have := members_in n x hx; omega
    · split at hx
      · simp only [List.mem_singleton] at hx; omega
      · cases hx
theorem okWear_at {w : Arr 5 Int} (h : okWear w = true) {k : Nat} (hk : k < 5) : (0 ≤ w.g k ∧ w.g k ≤ 31) ∧ bit (w.g k) k = true := by
  simp only [okWear, List.all_eq_true, List.mem_range, Bool.and_eq_true] at h
  have := h k hk
  simp only [inR, Bool.and_eq_true, decide_eq_true_eq] at this
  exact this
/-- The place of the sign that a cut chooses. -/
def cutAt (cuts : List Int) (i n : Nat) : Nat := if 0 < cuts.length then (((cuts.getD (i % cuts.length) 0).tmod n + n).tmod n).toNat else 0
def signs (w : Arr 5 Int) (a : Arr 6 Int) (i : Nat) : List Int := members (w.g (a.g i).toNat) 5
def wornV (w : Arr 5 Int) (a : Arr 6 Int) (cuts : List Int) (i : Nat) : Int := shl 1 ((signs w a i).getD (cutAt cuts i (signs w a i).length) 0).toNat
def wornUp (w : Arr 5 Int) (a : Arr 6 Int) (cuts : List Int) : Nat → Arr 6 Int
  | 0 => zero6
  | i + 1 => upd (wornUp w a cuts i) i (wornV w a cuts i)
def wornR (w : Arr 5 Int) (a : Arr 6 Int) (cuts : List Int) : Arr 6 Int × Int := if okWear w then (if okMark a then (wornUp w a cuts 6, 0) else (zero6, 10)) else (zero6, 11)
theorem cutAt_lt (cuts : List Int) (i : Nat) {n : Nat} (hn : 0 < n) : cutAt cuts i n < n := by
  unfold cutAt
  split
  · have h1 : -(n : Int) < (cuts.getD (i % cuts.length) 0).tmod n := by
      have := Int.tmod_lt_of_pos (-(cuts.getD (i % cuts.length) 0)) (show (0 : Int) < n by omega)
      rw [Int.neg_tmod] at this; omega
    have h2 := Int.tmod_lt_of_pos ((cuts.getD (i % cuts.length) 0).tmod n + n) (show (0 : Int) < n by omega)
    have h3 : 0 ≤ ((cuts.getD (i % cuts.length) 0).tmod n + n).tmod n := Int.tmod_nonneg _ (by omega)
    omega
  · exact hn
theorem F19 (w : Arr 5 Int) (a : Arr 6 Int) (cuts : List Int) : Ctr Try.prog 19 [enc w, enc a, enc cuts] (.tuple [enc (wornR w a cuts).1, enc (wornR w a cuts).2]) := by
  refine Ctr.mk' Try.func19 ca19 cc19 cr19 (Nat.le_of_ble_eq_true rfl) (fun hwf W0 D0 E1 => ?_)
  simp only [c19, r19, idx, Nat.zero_add, Nat.reduceAdd]
  have hlen : cuts.length ≤ maxLen := ((wf_list cuts).1 hwf.2.2.1).1
  simp only [maxLen] at hlen
  refine AW.seq (AW.reg cd19_0 fun K hK => ?_)
  simp only [g19_0, bR, Nat.reduceEqDiff, reduceIte, Int.reduceBNe, Int.reduceBEq]
  simp only [e_isVal, e_zero6, bR, Nat.reduceEqDiff, reduceIte, Int.reduceBNe, Int.reduceBEq]
  refine .done (hK _ ?_); clear hK K; simp only [thenQ, blockQ]
  refine AW.seq ?_
  refine AW.seq (AW.reg cd19_1 fun K hK => ?_)
  simp only [g19_1, bR, Nat.reduceEqDiff, reduceIte, Int.reduceBNe, Int.reduceBEq]
  try simp only [typR, useR, okR, e_fin, bR, Nat.reduceEqDiff, reduceIte, Int.reduceBNe, Int.reduceBEq]
  refine .flat _ (F43 w) rfl ?_
  try simp only [typR, useR, okR, e_fin, bR, Nat.reduceEqDiff, reduceIte, Int.reduceBNe, Int.reduceBEq]
  refine .flat _ (F41 a) rfl ?_
  simp only [typR, useR, okR, e_fin, bs2, bR, Nat.reduceEqDiff, reduceIte, Int.reduceBNe, Int.reduceBEq]
  refine .flat _ (F64 _) rfl ?_
  rw [first2 _ _ 11 10 (by decide) (by decide)]
  simp only [bR, Nat.reduceEqDiff, reduceIte, Int.reduceBNe, Int.reduceBEq]
  refine .done (hK _ ?_); clear hK K; simp only [thenQ, blockQ]
  generalize hw : okWear w = bw
  generalize ha : okMark a = ba
  cases bw
  · refine AW.seq (AW.reg cd19_2 fun K hK => ?_)
    simp only [g19_2, bR, Nat.reduceEqDiff, reduceIte, Int.reduceBNe, Int.reduceBEq]
    refine .done (hK _ ?_); clear hK K; simp only [thenQ, blockQ]
    refine AW.ite ?_
    simp only [condQ, bR, Nat.reduceEqDiff, reduceIte, Int.reduceBNe, Int.reduceBEq]
    refine ⟨fun h => ?_, fun h => ?_⟩
    · refine AW.seq (AW.reg cd19_3 fun K hK => ?_)
      simp only [g19_3, bR, Nat.reduceEqDiff, reduceIte, Int.reduceBNe, Int.reduceBEq]
      simp only [setParts, e_zero6, stR3_6, bR, Nat.reduceEqDiff, reduceIte, Int.reduceBNe, Int.reduceBEq]
      refine .done (hK _ ?_); clear hK K; simp only [thenQ, blockQ]
      refine AW.ret ?_
      simp only [blockQ, thenQ, bR, Nat.reduceEqDiff, reduceIte, Int.reduceBNe, Int.reduceBEq]
      simp only [typR, e_fin, bR, Nat.reduceEqDiff, reduceIte, Int.reduceBNe, Int.reduceBEq]
      simp [wornR, hw, e_int]
    · cases h
  cases ba
  · refine AW.seq (AW.reg cd19_2 fun K hK => ?_)
    simp only [g19_2, bR, Nat.reduceEqDiff, reduceIte, Int.reduceBNe, Int.reduceBEq]
    refine .done (hK _ ?_); clear hK K; simp only [thenQ, blockQ]
    refine AW.ite ?_
    simp only [condQ, bR, Nat.reduceEqDiff, reduceIte, Int.reduceBNe, Int.reduceBEq]
    refine ⟨fun h => ?_, fun h => ?_⟩
    · refine AW.seq (AW.reg cd19_3 fun K hK => ?_)
      simp only [g19_3, bR, Nat.reduceEqDiff, reduceIte, Int.reduceBNe, Int.reduceBEq]
      simp only [setParts, e_zero6, stR3_6, bR, Nat.reduceEqDiff, reduceIte, Int.reduceBNe, Int.reduceBEq]
      refine .done (hK _ ?_); clear hK K; simp only [thenQ, blockQ]
      refine AW.ret ?_
      simp only [blockQ, thenQ, bR, Nat.reduceEqDiff, reduceIte, Int.reduceBNe, Int.reduceBEq]
      simp only [typR, e_fin, bR, Nat.reduceEqDiff, reduceIte, Int.reduceBNe, Int.reduceBEq]
      simp [wornR, hw, ha, e_int]
    · cases h
  refine AW.seq (AW.reg cd19_2 fun K hK => ?_)
  simp only [g19_2, bR, Nat.reduceEqDiff, reduceIte, Int.reduceBNe, Int.reduceBEq]
  refine .done (hK _ ?_); clear hK K; simp only [thenQ, blockQ]
  refine AW.ite ?_
  simp only [condQ, bR, Nat.reduceEqDiff, reduceIte, Int.reduceBNe, Int.reduceBEq]
  refine ⟨fun h => ?_, fun h => ?_⟩
  · cases h
  refine AW.skip ?_; simp only [thenQ, blockQ, reduceIte, Nat.reduceEqDiff]
  refine AW.seq (AW.reg cd19_4 fun K hK => ?_)
  simp only [g19_4, bR, Nat.reduceEqDiff, reduceIte, Int.reduceBNe, Int.reduceBEq]
  refine .done (hK _ ?_); clear hK K; simp only [thenQ, blockQ]
  refine AW.seq ?_
  refine AW.seq (AW.reg cd19_5 fun K hK => ?_)
  simp only [g19_5, bR, Nat.reduceEqDiff, reduceIte, Int.reduceBNe, Int.reduceBEq]
  refine .done (hK _ ?_); clear hK K; simp only [thenQ, blockQ]
  refine AW.block (AW.loop (fun i : Nat => mkA [(2, enc cuts), (3, .ptr 3 []), (4, .ptr 4 []), (6, .ptr 6 []), (9, .ptr 9 []), (23, .int .i64 i)] [(3, .box (enc w)), (4, .box (enc a)), (6, .box (enc zero6)), (9, .box (enc (wornUp w a cuts i)))]) (fun i => i ≤ 6) (fun i => 6 - i) 0 (by omega) ?_ (fun i hi => ?_))
  · simp only [e_zero6, wornUp]
    refine Sub.of_lists ?_ ?_ ?_ ?_ <;> simp [subT, subO, onlyT, onlyO, isIn, look_cons, lookO_cons, lookO_nil, AV.only, AV.onlys, AO.only, onlys_map, onlys_append, e_only, e_int, e_bool]
  refine AW.seq (AW.reg cd19_6 fun K hK => ?_)
  simp only [g19_6, bR, Nat.reduceEqDiff, reduceIte, Int.reduceBNe, Int.reduceBEq]
  refine .done (hK _ ?_); clear hK K; simp only [thenQ, blockQ]
  refine AW.seq ?_
  refine AW.ite ?_
  simp only [condQ, bR, Nat.reduceEqDiff, reduceIte, Int.reduceBNe, Int.reduceBEq]
  refine ⟨fun h => ?_, fun h => ?_⟩
  · have hi6 : i < 6 := by simp at h; omega
    refine AW.skip ?_; simp only [thenQ, blockQ, reduceIte, Nat.reduceEqDiff]
    refine AW.seq (AW.block ?_)
    refine AW.seq (AW.reg cd19_7 fun K hK => ?_)
    simp only [g19_7, bR, Nat.reduceEqDiff, reduceIte, Int.reduceBNe, Int.reduceBEq]
    refine .done (hK _ ?_); clear hK K; simp only [thenQ, blockQ]
    refine AW.seq (AW.reg cd19_8 fun K hK => ?_)
    simp only [g19_8, bR, Nat.reduceEqDiff, reduceIte, Int.reduceBNe, Int.reduceBEq]
    try simp only [typR, useR, okR, e_fin, bR, Nat.reduceEqDiff, reduceIte, Int.reduceBNe, Int.reduceBEq]
    have h1 := okMark_at ha hi6
    have h2 := okWear_at hw (show (a.g i).toNat < 5 by omega)
    refine .flat _ (F77 w a i hi6 h1.1 h1.2) rfl ?_
    try simp only [typR, useR, okR, e_fin, bR, Nat.reduceEqDiff, reduceIte, Int.reduceBNe, Int.reduceBEq]
    refine .lead _ (F81 (w.g (a.g i).toNat) h2.1.1 h2.1.2) ?_
    try simp only [typR, useR, okR, e_fin, bR, Nat.reduceEqDiff, reduceIte, Int.reduceBNe, Int.reduceBEq]
    refine .done (hK _ ?_); clear hK K; simp only [thenQ, blockQ]
    have hL : signs w a i = members (w.g (a.g i).toNat) 5 := rfl
    rw [← hL]
    have hL5 : (signs w a i).length ≤ 5 := members_le _ 5
    have hL0 : 0 < (signs w a i).length := List.length_pos_of_mem (members_mem h2.2 5 (by omega))
    have hLn : ¬ ((signs w a i).length : Int) = 0 := by omega
    have hLi : ∀ x ∈ signs w a i, 0 ≤ x ∧ x < (5 : Nat) := members_in 5
    have hV : wornV w a cuts i = shl 1 ((signs w a i).getD (cutAt cuts i (signs w a i).length) 0).toNat := rfl
    have hcl := cutAt_lt cuts i hL0
    generalize hLL : signs w a i = L at hL5 hL0 hLn hLi hV hcl ⊢
    refine AW.seq (AW.reg cd19_9 fun K hK => ?_)
    simp only [g19_9, bR, Nat.reduceEqDiff, reduceIte, Int.reduceBNe, Int.reduceBEq]
    refine .done (hK _ ?_); clear hK K; simp only [thenQ, blockQ]
    refine AW.seq ?_
    refine AW.via (mkA [(2, enc cuts), (3, .ptr 3 []), (4, .ptr 4 []), (6, .ptr 6 []), (9, .ptr 9 []), (10, .int .i64 i), (11, enc L), (12, .int .i64 (cutAt cuts i L.length)), (23, .int .i64 i)] [(3, .box (enc w)), (4, .box (enc a)), (6, .box (enc zero6)), (9, .box (enc (wornUp w a cuts i)))]) ?_ fun B hB => ?_
    · refine AW.seq (AW.reg cd19_10 fun K hK => ?_)
      simp only [g19_10, bR, Nat.reduceEqDiff, reduceIte, Int.reduceBNe, Int.reduceBEq]
      try simp only [typR, useR, okR, e_fin, bR, Nat.reduceEqDiff, reduceIte, Int.reduceBNe, Int.reduceBEq]
      refine .done (hK _ ?_); clear hK K; simp only [thenQ, blockQ]
      refine AW.ite ?_
      simp only [condQ, bR, Nat.reduceEqDiff, reduceIte, Int.reduceBNe, Int.reduceBEq]
      refine ⟨fun h => ?_, fun h => ?_⟩
      · have hcp : 0 < cuts.length := by simpa using h
        have hcn : ¬ (cuts.length : Int) = 0 := by omega
        have hm : (i : Int).tmod cuts.length = ((i % cuts.length : Nat) : Int) := Int.ofNat_tmod i cuts.length
        have hml : i % cuts.length < cuts.length := Nat.mod_lt _ hcp
        refine AW.reg cd19_11 fun K hK => ?_
        simp only [g19_11, bR, Nat.reduceEqDiff, reduceIte, Int.reduceBNe, Int.reduceBEq]
        simp only [hcn, hm, isE_getD hml, hLn, typR, useR, okR, bR, Nat.reduceEqDiff, reduceIte, Int.reduceBNe, Int.reduceBEq]
        refine .done (hK _ ?_); clear hK K; simp only [thenQ, blockQ]
        generalize hx : cuts.getD (i % cuts.length) 0 = x
        have b1 := Int.tmod_lt_of_pos x (show (0 : Int) < L.length by omega)
        have b2 : -(L.length : Int) < x.tmod L.length := by
          have := Int.tmod_lt_of_pos (-x) (show (0 : Int) < L.length by omega)
          rw [Int.neg_tmod] at this; omega
        have b3 : 0 ≤ (x.tmod L.length + L.length).tmod L.length := Int.tmod_nonneg _ (by omega)
        have hcut : ((cutAt cuts i L.length : Nat) : Int) = (x.tmod L.length + L.length).tmod L.length := by
          simp only [cutAt, if_pos hcp, hx]; omega
        rw [wrap_id _ (by omega) (by omega), ← hcut]
        refine Sub.of_lists ?_ ?_ ?_ ?_ <;> simp [subT, subO, onlyT, onlyO, isIn, look_cons, lookO_cons, lookO_nil, AV.only, AV.onlys, AO.only, onlys_map, onlys_append, e_only, e_int, e_bool]
      · have hcp : cuts.length = 0 := by simpa using h
        refine AW.skip ?_; simp only [thenQ, blockQ, reduceIte, Nat.reduceEqDiff]
        have : cutAt cuts i L.length = 0 := by simp [cutAt, hcp]
        rw [this]
        refine Sub.of_lists ?_ ?_ ?_ ?_ <;> simp [subT, subO, onlyT, onlyO, isIn, look_cons, lookO_cons, lookO_nil, AV.only, AV.onlys, AO.only, onlys_map, onlys_append, e_only, e_int, e_bool]
    simp only [thenQ, blockQ]
    refine AW.sub hB ?_
    have hin := hLi (L.getD (cutAt cuts i L.length) 0) (by rw [List.getD_eq_getElem?_getD, List.getElem?_eq_getElem hcl]; exact List.getElem_mem hcl)
    refine AW.reg cd19_12 fun K hK => ?_
    simp only [g19_12, bR, Nat.reduceEqDiff, reduceIte, Int.reduceBNe, Int.reduceBEq]
    simp only [isE_getD hcl, typR, useR, okR, bR, Nat.reduceEqDiff, reduceIte, Int.reduceBNe, Int.reduceBEq]
    have hsh : IntKind.i64.wrap (1 * 2 ^ min (L.getD (cutAt cuts i L.length) 0).toNat IntKind.i64.bits) = wornV w a cuts i := hV.symm
    rw [if_pos hin.1, hsh]
    simp only [typR, useR, okR, inB_nat 1 (wornUp w a cuts i) hi6 rfl, atL_g (wornUp w a cuts i) hi6, get_g (wornUp w a cuts i) hi6, stR3_g (wornUp w a cuts i) hi6, bR, Nat.reduceEqDiff, reduceIte, Int.reduceBNe, Int.reduceBEq]
    refine .done (hK _ ?_); clear hK K; simp only [thenQ, blockQ]
    refine AW.reg cd19_13 fun K hK => ?_
    simp only [g19_13, bR, Nat.reduceEqDiff, reduceIte, Int.reduceBNe, Int.reduceBEq]
    refine .done (hK _ ?_); clear hK K; simp only [thenQ, blockQ]
    refine ⟨i + 1, by omega, by omega, ?_⟩
    rw [wrap_id _ (by omega) (by omega), wornUp]
    refine Sub.of_lists ?_ ?_ ?_ ?_ <;> simp [subT, subO, onlyT, onlyO, isIn, look_cons, lookO_cons, lookO_nil, AV.only, AV.onlys, AO.only, onlys_map, onlys_append, e_only, e_int, e_bool]
  · have h6 : i = 6 := by simp at h; omega
    subst h6
    refine AW.exit ?_; simp only [thenQ, blockQ, reduceIte, Nat.reduceEqDiff]
    refine AW.seq (AW.reg cd19_14 fun K hK => ?_)
    simp only [g19_14, bR, Nat.reduceEqDiff, reduceIte, Int.reduceBNe, Int.reduceBEq]
    simp only [typR, stR3_6, bR, Nat.reduceEqDiff, reduceIte, Int.reduceBNe, Int.reduceBEq]
    refine .done (hK _ ?_); clear hK K; simp only [thenQ, blockQ]
    refine AW.ret ?_
    simp only [blockQ, thenQ, bR, Nat.reduceEqDiff, reduceIte, Int.reduceBNe, Int.reduceBEq]
    simp only [typR, e_fin, bR, Nat.reduceEqDiff, reduceIte, Int.reduceBNe, Int.reduceBEq]
    simp [wornR, hw, ha, e_int]
end Go.Proofs.Ytkjkbpgdpnapfaa

/-
  THE LAW's OWN CHECK OF THE BOOK IT KNOWS, BY CONTRACT: sane.
-/
namespace Go.Proofs.Ytkjkbpgdpnapfaa
open Go Go.Abs
open Go.Abs.Enc (enc)
def rd1 : Arr 6 Int := a6 31 1 1 1 1 31
def wn1 : Arr 6 Int := a6 16 1 1 1 1 1
theorem sOwn : ownersOf bookM rd1 = ([1, 2, 3], 0) := by decide +kernel
theorem sLook : lookOf bookM rd1 = ([0], 0) := by decide +kernel
theorem sLooked : lookedOf bookM rd1 wn1 [0] = ([3], 0) := by decide +kernel
theorem sDist : distR bookM.wear (a6 2 1 0 0 0 0) (a6 3 2 0 0 0 0) = (2, 0) := by decide +kernel
theorem sWorn1 : (wornR bookM.wear (a6 3 1 0 0 0 0) [1, 0]).1 = wn1 := arr_ext (by decide +kernel)
theorem sWorn2 : (wornR bookM.wear (a6 3 1 0 0 0 0) [1, 0]).2 = 0 := by decide +kernel
theorem sNextK : nextK bookM = some 2 := find_range _ (by omega) (by decide +kernel) (fun j hj => by
  match j, hj with
  | 0, _ => decide +kernel
  | 1, _ => decide +kernel
  | n + 2, h => exact absurd h (by omega))
theorem sNext1 : (nextOf bookM).1 = a6 0 0 0 0 0 2 := by
  have h1 : okM bookM = true := by decide +kernel
  have h2 : ¬ bookM.given.length = 40 := by decide +kernel
  simp only [nextOf, h1, if_true, if_neg h2, sNextK]
  exact arr_ext (by decide +kernel)
theorem sNext2 : (nextOf bookM).2 = 0 := by
  have h1 : okM bookM = true := by decide +kernel
  have h2 : ¬ bookM.given.length = 40 := by decide +kernel
  simp only [nextOf, h1, if_true, if_neg h2, sNextK]
theorem F21 : Ctr Try.prog 21 [] (enc true) := by
  refine Ctr.mk' Try.func21 ca21 cc21 cr21 (Nat.le_of_ble_eq_true rfl) (fun hwf W0 D0 E1 => ?_)
  simp only [c21, r21, idx, Nat.zero_add, Nat.reduceAdd]
  refine AW.seq (AW.reg cd21_0 fun K hK => ?_)
  simp only [g21_0, bR, Nat.reduceEqDiff, reduceIte, Int.reduceBNe, Int.reduceBEq]
  refine .done (hK _ ?_); clear hK K; simp only [thenQ, blockQ]
  refine AW.seq (AW.reg cd21_1 fun K hK => ?_)
  simp only [g21_1, bR, Nat.reduceEqDiff, reduceIte, Int.reduceBNe, Int.reduceBEq]
  refine .lead _ F82 ?_
  simp only [e_a5, bR, Nat.reduceEqDiff, reduceIte, Int.reduceBNe, Int.reduceBEq]
  rw [stR3_ok (e_isVal _) (by rw [e_okS]; rfl) ((e_sh _).trans rfl)]
  simp only [setAt_nil, bR, Nat.reduceEqDiff, reduceIte, Int.reduceBNe, Int.reduceBEq]
  refine .done (hK _ ?_); clear hK K; simp only [thenQ, blockQ]
  refine AW.seq (AW.reg cd21_2 fun K hK => ?_)
  simp only [g21_2, bR, Nat.reduceEqDiff, reduceIte, Int.reduceBNe, Int.reduceBEq]
  simp only [bld6, e_a6, stR3_6, bR, Nat.reduceEqDiff, reduceIte, Int.reduceBNe, Int.reduceBEq]
  refine .done (hK _ ?_); clear hK K; simp only [thenQ, blockQ]
  refine AW.seq (AW.reg cd21_3 fun K hK => ?_)
  simp only [g21_3, bR, Nat.reduceEqDiff, reduceIte, Int.reduceBNe, Int.reduceBEq]
  try simp only [typR, useR, okR, e_fin, bR, Nat.reduceEqDiff, reduceIte, Int.reduceBNe, Int.reduceBEq]
  refine .lead _ (F26 bookM rd1) ?_
  simp only [sOwn, typR, bR, Nat.reduceEqDiff, reduceIte, Int.reduceBNe, Int.reduceBEq]
  refine .done (hK _ ?_); clear hK K; simp only [thenQ, blockQ]
  refine AW.seq (AW.reg cd21_4 fun K hK => ?_)
  simp only [g21_4, bR, Nat.reduceEqDiff, reduceIte, Int.reduceBNe, Int.reduceBEq]
  try simp only [typR, useR, okR, e_fin, bR, Nat.reduceEqDiff, reduceIte, Int.reduceBNe, Int.reduceBEq]
  refine .lead _ (F12 bookM rd1) ?_
  simp only [sLook, typR, bR, Nat.reduceEqDiff, reduceIte, Int.reduceBNe, Int.reduceBEq]
  refine .done (hK _ ?_); clear hK K; simp only [thenQ, blockQ]
  refine AW.seq (AW.reg cd21_5 fun K hK => ?_)
  simp only [g21_5, bR, Nat.reduceEqDiff, reduceIte, Int.reduceBNe, Int.reduceBEq]
  simp only [typR, useR, okR, e_fin, bld6, e_a6, bR, Nat.reduceEqDiff, reduceIte, Int.reduceBNe, Int.reduceBEq]
  refine .lead _ (F14 bookM rd1 wn1 [0]) ?_
  simp only [sLooked, typR, bR, Nat.reduceEqDiff, reduceIte, Int.reduceBNe, Int.reduceBEq]
  refine .done (hK _ ?_); clear hK K; simp only [thenQ, blockQ]
  refine AW.seq (AW.reg cd21_6 fun K hK => ?_)
  simp only [g21_6, bR, Nat.reduceEqDiff, reduceIte, Int.reduceBNe, Int.reduceBEq]
  try simp only [typR, useR, okR, e_fin, bR, Nat.reduceEqDiff, reduceIte, Int.reduceBNe, Int.reduceBEq]
  refine .lead _ (F55 bookM) ?_
  simp only [sNext1, sNext2, typR, e_a6, stR3_6, bR, Nat.reduceEqDiff, reduceIte, Int.reduceBNe, Int.reduceBEq]
  refine .done (hK _ ?_); clear hK K; simp only [thenQ, blockQ]
  refine AW.seq (AW.reg cd21_7 fun K hK => ?_)
  simp only [g21_7, bR, Nat.reduceEqDiff, reduceIte, Int.reduceBNe, Int.reduceBEq]
  simp only [typR, useR, okR, e_fin, bld6, e_a6, bR, Nat.reduceEqDiff, reduceIte, Int.reduceBNe, Int.reduceBEq]
  refine .lead _ (F36 bookM.wear (a6 2 1 0 0 0 0) (a6 3 2 0 0 0 0)) ?_
  simp only [sDist, typR, bR, Nat.reduceEqDiff, reduceIte, Int.reduceBNe, Int.reduceBEq]
  refine .done (hK _ ?_); clear hK K; simp only [thenQ, blockQ]
  refine AW.seq (AW.reg cd21_8 fun K hK => ?_)
  simp only [g21_8, bR, Nat.reduceEqDiff, reduceIte, Int.reduceBNe, Int.reduceBEq]
  simp only [typR, useR, okR, e_fin, bld6, e_a6, bs2, bR, Nat.reduceEqDiff, reduceIte, Int.reduceBNe, Int.reduceBEq]
  refine .lead _ (F19 bookM.wear (a6 3 1 0 0 0 0) [1, 0]) ?_
  simp only [sWorn1, sWorn2, typR, e_a6, stR3_6, bR, Nat.reduceEqDiff, reduceIte, Int.reduceBNe, Int.reduceBEq]
  refine .done (hK _ ?_); clear hK K; simp only [thenQ, blockQ]
  refine AW.seq (AW.reg cd21_9 fun K hK => ?_)
  simp only [g21_9, bR, Nat.reduceEqDiff, reduceIte, Int.reduceBNe, Int.reduceBEq]
  try simp only [typR, useR, okR, e_fin, bR, Nat.reduceEqDiff, reduceIte, Int.reduceBNe, Int.reduceBEq]
  refine .done (hK _ ?_); clear hK K; simp only [thenQ, blockQ]
  refine AW.seq (AW.reg cd21_10 fun K hK => ?_)
  simp only [g21_10, bR, Nat.reduceEqDiff, reduceIte, Int.reduceBNe, Int.reduceBEq]
  simp only [typR, useR, okR, e_fin, bs3, bR, Nat.reduceEqDiff, reduceIte, Int.reduceBNe, Int.reduceBEq]
  refine .flat _ (F16 [1, 2, 3] [1, 2, 3]) rfl ?_
  simp only [typR, useR, okR, e_fin, decide_true, bR, Nat.reduceEqDiff, reduceIte, Int.reduceBNe, Int.reduceBEq]
  refine .flat _ (F16 [0] [0]) rfl ?_
  simp only [typR, useR, okR, e_fin, decide_true, bR, Nat.reduceEqDiff, reduceIte, Int.reduceBNe, Int.reduceBEq]
  refine .flat _ (F16 [3] [3]) rfl ?_
  simp only [typR, useR, okR, e_fin, decide_true, bld6, e_a6, eqE_arr, bR, Nat.reduceEqDiff, reduceIte, Int.reduceBNe, Int.reduceBEq]
  refine .done (hK _ ?_); clear hK K; simp only [thenQ, blockQ]
  refine AW.ret ?_
  simp only [blockQ, thenQ, bR, Nat.reduceEqDiff, reduceIte, Int.reduceBNe, Int.reduceBEq]
  rfl
end Go.Proofs.Ytkjkbpgdpnapfaa

/-
  FUNCTIONS OF THE REFERENCE BY CONTRACT: Wears.
-/
namespace Go.Proofs.Ytkjkbpgdpnapfaa
open Go Go.Abs
open Go.Abs.Enc (enc)
def zero5 : Arr 5 Int := ⟨List.replicate 5 0, rfl⟩
def bor (a b : Int) : Int := IntKind.i64.wrap ((BitVec.ofInt IntKind.i64.bits a ||| BitVec.ofInt IntKind.i64.bits b).toNat : Int)
def wearAt (c : List Int) (k : Nat) (x : Arr 5 Int) : Arr 5 Int :=
  if at' c k % 12 < 5 then upd (upd x k (shl 1 k)) k (bor ((upd x k (shl 1 k)).g k) (shl 1 (at' c k % 12).toNat)) else upd x k (shl 1 k)
def wears (c : List Int) : Nat → Arr 5 Int
  | 0 => zero5
  | k + 1 => wearAt c k (wears c k)
end Go.Proofs.Ytkjkbpgdpnapfaa

/-
  FUNCTIONS OF mark BY CONTRACT: Meet.
-/
namespace Go.Proofs.Ytkjkbpgdpnapfaa
open Go Go.Abs
open Go.Abs.Enc (enc)
def one (l : List Int) : Int := shl 1 (l.getD 0 0).toNat
end Go.Proofs.Ytkjkbpgdpnapfaa

/-
  FUNCTIONS OF THE REFERENCE BY CONTRACT: MeetError, Meets.
-/
namespace Go.Proofs.Ytkjkbpgdpnapfaa
open Go Go.Abs
open Go.Abs.Enc (enc)
structure Pair where
  a : Arr 6 Int
  b : Arr 6 Int
instance : Enc Pair where
  enc p := .agg [enc p.a, enc p.b]
  sz := 12
  sh := .many [.many (List.replicate 6 .one), .many (List.replicate 6 .one)]
  isA := true
  done p := by simp only [AV.done, AV.dones, Enc.done, Bool.and_self]
  size p := by simp only [AV.size, AV.sizes, e_size, e_szArr, e_szInt]
  shp p := by simp only [AV.sh, AV.shs, e_sh, e_shArr, e_shInt]
  agg _ := rfl
end Go.Proofs.Ytkjkbpgdpnapfaa

/-
  WHAT Meet RETURNS IS DUE (in plain data), and the law MarkCosts by contract.
-/
namespace Go.Proofs.Ytkjkbpgdpnapfaa
open Go Go.Abs
open Go.Abs.Enc (enc)
end Go.Proofs.Ytkjkbpgdpnapfaa

/-
  WHAT NUMBERS DESCRIBE IS IN ORDER (in plain data): wear, marks, single signs.
-/
namespace Go.Proofs.Ytkjkbpgdpnapfaa
open Go Go.Abs
open Go.Abs.Enc (enc)
theorem nd_nat (k : Nat) : nd (k : Int) 1 = ((k / 5 : Nat) : Int) ∧ nd (k : Int) 2 = ((k / 5 / 5 : Nat) : Int) ∧ nd (k : Int) 3 = ((k / 5 / 5 / 5 : Nat) : Int) ∧ nd (k : Int) 4 = ((k / 5 / 5 / 5 / 5 : Nat) : Int) ∧ nd (k : Int) 5 = ((k / 5 / 5 / 5 / 5 / 5 : Nat) : Int) := by
  have h : ∀ n : Nat, (n : Int).tdiv 5 = ((n / 5 : Nat) : Int) := fun n => Int.ofNat_tdiv n 5
  simp only [nd, h, and_self]
theorem digits_dgs (k : Nat) : digits (k : Int) 6 = dgs k := by
  obtain ⟨h1, h2, h3, h4, h5⟩ := nd_nat k
  have h : ∀ n : Nat, (n : Int).tmod 5 = ((n % 5 : Nat) : Int) := fun n => Int.ofNat_tmod n 5
  have h0 : nd (k : Int) 0 = k := rfl
  refine arr_ext ?_
  simp only [digits, upd, dgs, dg, h0, h1, h2, h3, h4, h5, h]
  rfl
end Go.Proofs.Ytkjkbpgdpnapfaa

/-
  THE BOOK THAT NUMBERS DESCRIBE (in plain data): it is in order.
-/
namespace Go.Proofs.Ytkjkbpgdpnapfaa
open Go Go.Abs
open Go.Abs.Enc (enc)
def madeG (c : List Int) (i : Nat) (o : Int) : Given := ⟨o, digits (IntKind.i64.wrap (IntKind.i64.wrap (c.getD i 0 * 7) + i * 2503) % 15625) 6⟩
def madeStep (c : List Int) (i : Nat) (p : Int × List Given) : Int × List Given :=
  (p.1 + (1 + c.getD i 0 % 4), if p.2.any (fun h => tooNear ⟨wears c 5, at' c 5 % 2, p.2⟩ h.mark (madeG c i 0).mark) then p.2 else p.2 ++ [madeG c i (p.1 + (1 + c.getD i 0 % 4))])
def madeUp (c : List Int) : Nat → Int × List Given
  | 0 => (0, [])
  | i + 1 => if i < c.length ∧ (madeUp c i).2.length < 9 then madeStep c i (madeUp c i) else madeUp c i
def madeM (c : List Int) (n : Nat) : Marks := ⟨wears c 5, at' c 5 % 2, (madeUp c n).2⟩
/-- The book that numbers describe. -/
def made (c : List Int) : Marks := madeM c 12
end Go.Proofs.Ytkjkbpgdpnapfaa

/-
  FUNCTIONS OF THE REFERENCE BY CONTRACT: Made.
-/
namespace Go.Proofs.Ytkjkbpgdpnapfaa
open Go Go.Abs
open Go.Abs.Enc (enc)
theorem bldM2 (w : Arr 5 Int) (n : Int) : setParts [enc (a5 0 0 0 0 0), .int .i64 0, .nils 7] [(0, enc w), (1, .int .i64 n)] = some [enc w, .int .i64 n, .nils 7] := by
  have h1 : ((enc w : AV).isVal = true ∧ (enc w : AV).size = (enc (a5 0 0 0 0 0)).size) := ⟨e_isVal _, by rw [e_size, e_size]⟩
  rw [setParts_cons (z := enc (a5 0 0 0 0 0)) rfl h1.1 h1.2, setParts_cons (v := .int .i64 n) (z := .int .i64 0) rfl rfl rfl]; rfl
theorem bookL (w : Arr 5 Int) (n : Int) (x : AV) (h1 : x.isVal = true) (h2 : x.sh = .one) (h3 : x.size = 1) : (AV.agg [enc w, .int .i64 n, x]).isVal = true ∧ okLd (some 7) (AV.agg [enc w, .int .i64 n, x]) = true ∧ (AV.agg [enc w, .int .i64 n, x]).sh = .many [.many (List.replicate 5 .one), .one, .one] := by
  refine ⟨rfl, ?_, ?_⟩
  · simp [okLd, AV.isAgg, AV.size, AV.sizes, e_size, h3, e_szArr, e_szInt]
  · simp [AV.sh, AV.shs, e_sh, h2, e_shArr, e_shInt]
theorem offB (w : Arr 5 Int) (n : Int) (x : AV) (v : AV) : offR [enc w, .int .i64 n, x] 2 6 v = some v := offR_eq (Nat.le_of_ble_eq_true rfl) (by simp [AV.sizes, AV.size, e_size, e_szArr, e_szInt])
end Go.Proofs.Ytkjkbpgdpnapfaa

/-
  FUNCTIONS OF slices BY CONTRACT, over given marks: Insert.
-/
namespace Go.Proofs.Ytkjkbpgdpnapfaa
open Go Go.Abs
open Go.Abs.Enc (enc)
def ins (l : List Given) (i : Nat) (g : Given) : List Given := l.take i ++ g :: l.drop i
theorem ins_len {l : List Given} {i : Nat} (g : Given) (h : i ≤ l.length) : (ins l i g).length = l.length + 1 := by
  simp only [ins, List.length_append, List.length_take, List.length_cons, List.length_drop]; omega
theorem ins_end (l : List Given) (g : Given) : ins l l.length g = l ++ [g] := by simp [ins]
def insPost (l : List Given) (i : Nat) (g : Given) (k : Nat) : Post := fun r os' =>
  (∃ q, r = .view 1000000 [] 7 0 (l.length + 1) ∧ os' = rowG 1000000 (ins l i g) q) ∨ ∃ d q, (d = 25 ∨ d = 40) ∧ r = .view d [] 7 0 (l.length + 1) ∧ os' = rowG d (ins l i g) q ++ rowG 1000000 l k
theorem held2 {A : AState} {k k' : Nat} {c c' : AV} (h1 : A.o k = some (.box c)) (h2 : ∀ p, c.only p = true) (h1' : A.o k' = some (.box c')) (h2' : ∀ p, c'.only p = true) : ∀ n x, lookO [(k, .box c), (k', .box c')] n = some x → A.o n = some x ∧ x.only (isIn [(k, .box c), (k', .box c')]) = true ∧ x.fix = true := fun n x h => by
  simp only [lookO] at h
  split at h
  · rename_i hn
    subst hn
    simp only [Option.some.injEq] at h
    subst h
    exact ⟨h1, h2 _, rfl⟩
  · split at h
    · rename_i hn
      subst hn
      simp only [Option.some.injEq] at h
      subst h
      exact ⟨h1', h2' _, rfl⟩
    · cases h
theorem list_new (l : List Given) (i q : Nat) (g : Given) (h : i < l.length) (xs : List Given) (hx : xs = l.take i ++ (List.replicate (l.length + 1 - i) g0 ++ List.replicate q g0)) (ys : List Given) (hy : ys = xs.take i ++ ([g].take 1 ++ xs.drop (i + 1))) :
    ys.take (i + 1) ++ ((((l ++ List.replicate 0 g0).drop i).take (l.length - i)).take (l.length - i) ++ ys.drop (i + 1 + (l.length - i))) = ins l i g ++ List.replicate q g0 := by
  have e1 : xs.take i = l.take i := by rw [hx, List.take_append_of_le_length (by rw [List.length_take]; omega), List.take_take, Nat.min_self]
  have e2 : xs.drop (i + 1) = List.replicate (l.length - i + q) g0 := by
    have hl : (l.take i).length = i := by rw [List.length_take]; omega
    rw [hx, List.replicate_append_replicate, List.drop_append, hl, List.drop_eq_nil_of_le (by rw [hl]; omega), List.nil_append, List.drop_replicate]
    congr 1; omega
  have e3 : ys = (l.take i ++ [g]) ++ List.replicate (l.length - i + q) g0 := by rw [hy, e1, e2]; simp
  have hl2 : (l.take i ++ [g]).length = i + 1 := by rw [List.length_append, List.length_take]; simp; omega
  have e4 : ys.take (i + 1) = l.take i ++ [g] := by rw [e3, ← hl2, List.take_left]
  have e5 : ys.drop (i + 1 + (l.length - i)) = List.replicate q g0 := by
    rw [e3, List.drop_append, hl2, List.drop_eq_nil_of_le (by rw [hl2]; omega), List.nil_append, List.drop_replicate]
    congr 1; omega
  have e6 : (((l ++ List.replicate 0 g0).drop i).take (l.length - i)).take (l.length - i) = l.drop i := by
    rw [List.replicate_zero, List.append_nil, List.take_take, Nat.min_self, List.take_of_length_le (by rw [List.length_drop]; omega)]
  rw [e4, e5, e6]
  simp [ins]
theorem list_in (l : List Given) (i k : Nat) (g : Given) (h : i < l.length) (hk : 1 ≤ k) (xs : List Given) (hx : xs = l ++ List.replicate k g0) (ys : List Given) (hy : ys = xs.take (i + 1) ++ (((xs.drop i).take (l.length + 1 - i)).take (l.length - i) ++ xs.drop (i + 1 + (l.length - i)))) :
    ys.take i ++ ([g].take 1 ++ ys.drop (i + 1)) = ins l i g ++ List.replicate (k - 1) g0 := by
  have e1 : ((xs.drop i).take (l.length + 1 - i)).take (l.length - i) = l.drop i := by
    rw [List.take_take, Nat.min_eq_left (by omega), hx, List.drop_append_of_le_length (by omega), List.take_append_of_le_length (by rw [List.length_drop]; omega), List.take_of_length_le (by rw [List.length_drop]; omega)]
  have e2 : xs.drop (i + 1 + (l.length - i)) = List.replicate (k - 1) g0 := by
    rw [hx, List.drop_append, List.drop_eq_nil_of_le (by omega), List.nil_append, List.drop_replicate]
    congr 1; omega
  have hl : (xs.take (i + 1)).length = i + 1 := by rw [List.length_take, hx, List.length_append]; omega
  have e3 : ys.take i = l.take i := by
    rw [hy, List.take_append_of_le_length (by omega), List.take_take, Nat.min_eq_left (by omega), hx, List.take_append_of_le_length (by omega)]
  have e4 : ys.drop (i + 1) = l.drop i ++ List.replicate (k - 1) g0 := by
    rw [hy, e1, e2]
    exact List.drop_left' hl
  rw [e3, e4]
  simp [ins]
theorem F122 (l : List Given) (i : Nat) (g : Given) (k : Nat) (hi : i ≤ l.length) (hn : l ≠ []) (hlen : l.length ≤ 1000) :
    CtrO Try.prog 122 [.view 1000000 [] 7 0 l.length, enc (i : Int), enc [g]] (rowG 1000000 l k) (insPost l i g k) := by
  refine CtrO.mk' Try.func122 ca122 cc122 cr122 (Nat.le_of_ble_eq_true rfl) (Nat.le_of_ble_eq_true rfl) (fun m hm => by rw [isIn_one.1 hm]; exact Nat.le_refl _) (fun hwf W0 D0 E1 => ?_)
  simp only [c122, r122, idx, Nat.zero_add, Nat.reduceAdd]
  simp only [rowG]
  have hl0 : 0 < l.length := List.length_pos_iff.2 hn
  have htot : ((l ++ List.replicate k g0).map (enc (α := Given))).length = l.length + k := by simp
  refine AW.seq (AW.reg cd122_0 fun K hK => ?_)
  simp only [g122_0, bR, Nat.reduceEqDiff, reduceIte, Int.reduceBNe, Int.reduceBEq]
  refine .done (hK _ ?_); clear hK K; simp only [thenQ, blockQ]
  obtain ⟨y, hy⟩ := sliceV_any (n := 1000000) (p := []) (sz := 7) hi (show l.length ≤ l.length + k by omega)
  refine AW.seq (AW.reg cd122_1 fun K hK => ?_)
  simp only [g122_1, bR, Nat.reduceEqDiff, reduceIte, Int.reduceBNe, Int.reduceBEq]
  simp only [viewR, htot, Option.map_none, Option.map_some, hy, e_int, bR, Nat.reduceEqDiff, reduceIte, Int.reduceBNe, Int.reduceBEq]
  refine .done (hK _ ?_); clear hK K; simp only [thenQ, blockQ]
  refine AW.seq (AW.reg cd122_2 fun K hK => ?_)
  simp only [g122_2, bR, Nat.reduceEqDiff, reduceIte, Int.reduceBNe, Int.reduceBEq]
  try simp only [typR, useR, okR, e_fin, bR, Nat.reduceEqDiff, reduceIte, Int.reduceBNe, Int.reduceBEq]
  refine .done (hK _ ?_); clear hK K; simp only [thenQ, blockQ]
  refine AW.seq (AW.seq ?_)
  refine AW.reg cd122_3 fun K hK => ?_
  simp only [g122_3, bR, Nat.reduceEqDiff, reduceIte, Int.reduceBNe, Int.reduceBEq]
  try simp only [typR, useR, okR, e_fin, bR, Nat.reduceEqDiff, reduceIte, Int.reduceBNe, Int.reduceBEq]
  refine .done (hK _ ?_); clear hK K; simp only [thenQ, blockQ]
  refine AW.ite ?_
  simp only [condQ, bR, Nat.reduceEqDiff, reduceIte, Int.reduceBNe, Int.reduceBEq]
  refine ⟨fun h => ?_, fun h => ?_⟩
  · first | cases h | simp at h
  refine AW.skip ?_; simp only [thenQ, blockQ, reduceIte, Nat.reduceEqDiff]
  refine AW.seq (AW.reg cd122_5 fun K hK => ?_)
  simp only [g122_5, bR, Nat.reduceEqDiff, reduceIte, Int.reduceBNe, Int.reduceBEq]
  simp only [viewR, bR, Nat.reduceEqDiff, reduceIte, Int.reduceBNe, Int.reduceBEq]
  refine .done (hK _ ?_); clear hK K; simp only [thenQ, blockQ]
  refine AW.seq (AW.seq ?_)
  refine AW.reg cd122_6 fun K hK => ?_
  simp only [g122_6, bR, Nat.reduceEqDiff, reduceIte, Int.reduceBNe, Int.reduceBEq]
  try simp only [typR, useR, okR, e_fin, bR, Nat.reduceEqDiff, reduceIte, Int.reduceBNe, Int.reduceBEq]
  refine .done (hK _ ?_); clear hK K; simp only [thenQ, blockQ]
  have hA : ∀ ts, (mkA ts [(1000000, .box (.agg ((l ++ List.replicate k g0).map (enc (α := Given)))))]).o 1000000 = some (.box (.agg ((l ++ List.replicate k g0).map enc))) := fun _ => rfl
  have hN : ∀ ts (d : Nat), d ≠ 1000000 → (mkA ts [(1000000, .box (.agg ((l ++ List.replicate k g0).map (enc (α := Given)))))]).o d = none := fun ts d hd => by
    have : ¬ d = 1000000 := hd
    simp [mkA, lookO, this, Ne.symm hd]
  refine AW.ite ?_
  simp only [condQ, bR, Nat.reduceEqDiff, reduceIte, Int.reduceBNe, Int.reduceBEq]
  refine ⟨fun h => ?_, fun h => ?_⟩
  · have hil : i = l.length := by
      have : (i : Int) = l.length := by simpa using h
      omega
    subst hil
    by_cases hk : k = 0
    · subst hk
      refine AW.seq (AW.reg cd122_7 fun K hK => ?_)
      simp only [g122_7, bR, Nat.reduceEqDiff, reduceIte, Int.reduceBNe, Int.reduceBEq]
      simp only [e_g0, bR, Nat.reduceEqDiff, reduceIte, Int.reduceBNe, Int.reduceBEq]
      refine WP.appGrow (esz := 7) g0 rfl (xs := l ++ List.replicate 0 g0) (ys := [g]) (by simp) (hA _) (by simp) (by simp) (hN _ 25 (by decide)) (by simp; omega) (by simp [maxLen]; omega) fun q => ?_
      have hc : (l ++ List.replicate 0 g0).take l.length ++ ([g] ++ List.replicate q g0) = ins l l.length g ++ List.replicate q g0 := by simp [ins]
      rw [hc]
      simp only [List.length_singleton, bR, Nat.reduceEqDiff, reduceIte, Int.reduceBNe, Int.reduceBEq]
      refine .done (hK _ ?_); clear hK K; simp only [thenQ, blockQ]
      refine AW.ret ?_
      simp only [blockQ, thenQ, retO_ret]
      exact ⟨rowG 25 (ins l l.length g) q ++ rowG 1000000 l 0, [.view 25 [] 7 0 (l.length + 1)], held2 rfl (fun p => map_only p _) rfl (fun p => map_only p _), ⟨⟨_, rfl, .inl ⟨rfl, rfl, rfl⟩⟩, trivial⟩, .inr ⟨25, q, .inl rfl, rfl, rfl⟩⟩
    · refine AW.seq (AW.reg cd122_7 fun K hK => ?_)
      simp only [g122_7, bR, Nat.reduceEqDiff, reduceIte, Int.reduceBNe, Int.reduceBEq]
      simp only [e_g0, bR, Nat.reduceEqDiff, reduceIte, Int.reduceBNe, Int.reduceBEq]
      rw [appR_view (esz := 7) _ rfl (xs := l ++ List.replicate k g0) (ys := [g]) (by simp) (hA _) (by simp; omega)]
      have hc : (l ++ List.replicate k g0).take l.length ++ ([g] ++ (l ++ List.replicate k g0).drop (l.length + [g].length)) = ins l l.length g ++ List.replicate (k - 1) g0 := by
        simp [ins, List.drop_append]
      rw [hc]
      simp only [List.length_singleton, bR, Nat.reduceEqDiff, reduceIte, Int.reduceBNe, Int.reduceBEq]
      refine .done (hK _ ?_); clear hK K; simp only [thenQ, blockQ]
      refine AW.ret ?_
      simp only [blockQ, thenQ, retO_ret]
      exact ⟨rowG 1000000 (ins l l.length g) (k - 1), [.view 1000000 [] 7 0 (l.length + 1)], held1 rfl (fun p => map_only p _), ⟨⟨_, rfl, .inl ⟨rfl, rfl, rfl⟩⟩, trivial⟩, .inl ⟨k - 1, rfl, rfl⟩⟩
  have hlt : i < l.length := by
    have : ¬ (i : Int) = l.length := by simpa using h
    omega
  refine AW.skip ?_; simp only [thenQ, blockQ, reduceIte, Nat.reduceEqDiff]
  refine AW.seq (AW.seq ?_)
  refine AW.reg cd122_8 fun K hK => ?_
  simp only [g122_8, bR, Nat.reduceEqDiff, reduceIte, Int.reduceBNe, Int.reduceBEq]
  simp only [o_cap, List.length_singleton, bR, Nat.reduceEqDiff, reduceIte, Int.reduceBNe, Int.reduceBEq]
  rw [capE_view (xs := l ++ List.replicate k g0) (hA _)]
  simp only [bR, Nat.reduceEqDiff, reduceIte, Int.reduceBNe, Int.reduceBEq]
  rw [wrap_id _ (by simp; omega) (by simp; omega)]
  refine .done (hK _ ?_); clear hK K; simp only [thenQ, blockQ]
  have hgt : decide ((((l ++ List.replicate k g0).length - 0 : Nat) : Int) < (l.length : Int) + ((1 : Nat) : Int)) = decide (k = 0) := by
    by_cases hk : k = 0 <;> simp [hk] <;> omega
  simp only [hgt]
  by_cases hk : k = 0
  · subst hk
    refine AW.ite ?_
    simp only [condQ, bR, Nat.reduceEqDiff, reduceIte, Int.reduceBNe, Int.reduceBEq]
    refine ⟨fun h => ?_, fun h => ?_⟩
    · have htot0 : ((l ++ List.replicate 0 g0).map (enc (α := Given))).length = l.length := by simp
      refine AW.seq (AW.reg cd122_9 fun K hK => ?_)
      simp only [g122_9, bR, Nat.reduceEqDiff, reduceIte, Int.reduceBNe, Int.reduceBEq]
      simp only [viewR, htot0, Option.map_none, Option.map_some, sliceV_hi (show i ≤ l.length by omega) hl0, List.length_singleton, e_g0, o_apz, bR, Nat.reduceEqDiff, reduceIte, Int.reduceBNe, Int.reduceBEq]
      rw [wrap_id ((l.length : Int) + ((1 : Nat) : Int)) (by omega) (by omega), wrap_id ((l.length : Int) + ((1 : Nat) : Int) - i) (by omega) (by omega)]
      have hm : (l.length : Int) + ((1 : Nat) : Int) - i = ((l.length + 1 - i : Nat) : Int) := by omega
      rw [hm]
      refine WP.apzNew (esz := 7) g0 rfl (xs := l ++ List.replicate 0 g0) (hA _) (by simp; omega) (by omega) (by simp; omega) (hN _ 40 (by decide)) (by omega) (by simp only [maxLen]; omega) fun q => ?_
      obtain ⟨xs, hxs⟩ : ∃ xs, xs = l.take i ++ (List.replicate (l.length + 1 - i) g0 ++ List.replicate q g0) := ⟨_, rfl⟩
      have hxs' : (l ++ List.replicate 0 g0).take i ++ (List.replicate (l.length + 1 - i) g0 ++ List.replicate q g0) = xs := by rw [hxs, List.take_append_of_le_length (by omega)]
      have hxl : xs.length = l.length + 1 + q := by rw [hxs]; simp; omega
      have hle : i + (l.length + 1 - i) = l.length + 1 := by omega
      rw [hxs', hle]
      simp only [bR, Nat.reduceEqDiff, reduceIte, Int.reduceBNe, Int.reduceBEq]
      refine .done (hK _ ?_); clear hK K; simp only [thenQ, blockQ]
      have hxm : (xs.map (enc (α := Given))).length = l.length + 1 + q := by rw [List.length_map]; exact hxl
      have hA2 : ∀ ts, (mkA ts [(40, .box (.agg (xs.map (enc (α := Given))))), (1000000, .box (.agg ((l ++ List.replicate 0 g0).map (enc (α := Given)))))]).o 40 = some (.box (.agg (xs.map enc))) := fun _ => rfl
      refine AW.seq (AW.reg cd122_10 fun K hK => ?_)
      simp only [g122_10, bR, Nat.reduceEqDiff, reduceIte, Int.reduceBNe, Int.reduceBEq]
      simp only [viewR, hxm, Option.map_none, Option.map_some, sliceV_lo (show i ≤ l.length + 1 by omega) (show l.length + 1 ≤ l.length + 1 + q by omega) (show i < l.length + 1 + q by omega), List.length_singleton, e_g0, o_cpy, bR, Nat.reduceEqDiff, reduceIte, Int.reduceBNe, Int.reduceBEq]
      rw [srcL_enc _ 7 [g] rfl, cpyO_enc (xs := xs) (c := 1) (hA2 _) (by omega) (by simp; omega)]
      obtain ⟨ys, hys⟩ : ∃ ys, ys = xs.take i ++ ([g].take 1 ++ xs.drop (i + 1)) := ⟨_, rfl⟩
      have hyl : ys.length = l.length + 1 + q := by rw [hys]; simp; omega
      rw [← hys]
      simp only [bR, Nat.reduceEqDiff, reduceIte, Int.reduceBNe, Int.reduceBEq]
      refine .done (hK _ ?_); clear hK K; simp only [thenQ, blockQ]
      have hym : (ys.map (enc (α := Given))).length = l.length + 1 + q := by rw [List.length_map]; exact hyl
      have hA3 : ∀ ts z, (mkA ts [(40, .box (.agg (ys.map (enc (α := Given))))), (40, z), (1000000, .box (.agg ((l ++ List.replicate 0 g0).map (enc (α := Given)))))]).o 40 = some (.box (.agg (ys.map enc))) := fun _ _ => rfl
      have hA4 : ∀ ts z, (mkA ts [(40, .box (.agg (ys.map (enc (α := Given))))), (40, z), (1000000, .box (.agg ((l ++ List.replicate 0 g0).map (enc (α := Given)))))]).o 1000000 = some (.box (.agg ((l ++ List.replicate 0 g0).map enc))) := fun _ _ => rfl
      refine AW.seq (AW.reg cd122_11 fun K hK => ?_)
      simp only [g122_11, bR, Nat.reduceEqDiff, reduceIte, Int.reduceBNe, Int.reduceBEq]
      rw [wrap_id ((i : Int) + ((1 : Nat) : Int)) (by omega) (by omega)]
      have hi1 : (i : Int) + ((1 : Nat) : Int) = ((i + 1 : Nat) : Int) := by omega
      simp only [viewR, hym, htot0, hi1, Option.map_none, Option.map_some, sliceV_lo (show i + 1 ≤ l.length + 1 by omega) (show l.length + 1 ≤ l.length + 1 + q by omega) (show i + 1 < l.length + 1 + q by omega), sliceV_lo (show i ≤ l.length by omega) (Nat.le_refl l.length) hlt, o_cpy, bR, Nat.reduceEqDiff, reduceIte, Int.reduceBNe, Int.reduceBEq]
      have hd1 : l.length + 1 - (i + 1) = l.length - i := by omega
      rw [hd1, srcL_view (xs := l ++ List.replicate 0 g0) (hA4 _ _) (by simp; omega), cpyO_enc (xs := ys) (c := l.length - i) (hA3 _ _) (by omega) (by simp)]
      rw [list_new l i q g hlt xs hxs ys hys]
      simp only [bR, Nat.reduceEqDiff, reduceIte, Int.reduceBNe, Int.reduceBEq]
      refine .done (hK _ ?_); clear hK K; simp only [thenQ, blockQ]
      refine AW.seq (AW.reg cd122_12 fun K hK => ?_)
      simp only [g122_12, bR, Nat.reduceEqDiff, reduceIte, Int.reduceBNe, Int.reduceBEq]
      refine .done (hK _ ?_); clear hK K; simp only [thenQ, blockQ]
      refine AW.ret ?_
      simp only [blockQ, thenQ, retO_ret]
      exact ⟨rowG 40 (ins l i g) q ++ rowG 1000000 l 0, [.view 40 [] 7 0 (l.length + 1)], held2 rfl (fun p => map_only p _) rfl (fun p => map_only p _), ⟨⟨_, rfl, .inl ⟨rfl, rfl, rfl⟩⟩, trivial⟩, .inr ⟨40, q, .inr rfl, rfl, rfl⟩⟩
    · simp at h
  · refine AW.ite ?_
    simp only [condQ, bR, Nat.reduceEqDiff, reduceIte, Int.reduceBNe, Int.reduceBEq]
    refine ⟨fun h => ?_, fun h => ?_⟩
    · simp at h; omega
    refine AW.skip ?_; simp only [thenQ, blockQ, reduceIte, Nat.reduceEqDiff]
    have hk1 : 1 ≤ k := by omega
    have hn1 : (l.length : Int) + ((1 : Nat) : Int) = ((l.length + 1 : Nat) : Int) := by omega
    refine AW.seq (AW.reg cd122_13 fun K hK => ?_)
    simp only [g122_13, bR, Nat.reduceEqDiff, reduceIte, Int.reduceBNe, Int.reduceBEq]
    rw [wrap_id ((l.length : Int) + ((1 : Nat) : Int)) (by omega) (by omega)]
    simp only [viewR, htot, hn1, Option.map_none, Option.map_some, sliceV_hi (show l.length + 1 ≤ l.length + k by omega) (show 0 < l.length + k by omega), bR, Nat.reduceEqDiff, reduceIte, Int.reduceBNe, Int.reduceBEq]
    refine .done (hK _ ?_); clear hK K; simp only [thenQ, blockQ]
    have hi1 : (i : Int) + ((1 : Nat) : Int) = ((i + 1 : Nat) : Int) := by omega
    have hd1 : l.length + 1 - (i + 1) = l.length - i := by omega
    refine AW.seq (AW.seq ?_)
    refine AW.reg cd122_14 fun K hK => ?_
    simp only [g122_14, bR, Nat.reduceEqDiff, reduceIte, Int.reduceBNe, Int.reduceBEq]
    rw [wrap_id ((i : Int) + ((1 : Nat) : Int)) (by omega) (by omega)]
    simp only [viewR, htot, hi1, hd1, Option.map_none, Option.map_some, sliceV_lo (show i + 1 ≤ l.length + 1 by omega) (show l.length + 1 ≤ l.length + k by omega) (show i + 1 < l.length + k by omega), o_xcall, bR, Nat.reduceEqDiff, reduceIte, Int.reduceBNe, Int.reduceBEq]
    refine .ext (.bool false) rfl (xval_overlaps (tS := 24) (tR := 4) (e := 43) Try.func124 (by kernel_rfl) (by kernel_rfl) (by kernel_rfl) (by kernel_rfl) (by kernel_rfl) (by kernel_rfl) (hA _) rfl ?_ (by decide)) ?_
    · show AV.sizes ((l ++ List.replicate k g0).map enc) ≠ 0
      rw [AV.sizes_const (sz := 7) _ (fun e he => by obtain ⟨x, _, rfl⟩ := List.mem_map.1 he; rw [e_size]; rfl)]
      rw [htot]; omega
    simp only [bR, Nat.reduceEqDiff, reduceIte, Int.reduceBNe, Int.reduceBEq]
    refine .done (hK _ ?_); clear hK K; simp only [thenQ, blockQ]
    refine AW.ite ?_
    simp only [condQ, bR, Nat.reduceEqDiff, reduceIte, Int.reduceBNe, Int.reduceBEq]
    refine ⟨fun h => ?_, fun h => ?_⟩
    case neg.refine_2.refine_2.refine_2 => cases h
    have hd2 : l.length + 1 - i = l.length + 1 - i := rfl
    obtain ⟨xs, hxs⟩ : ∃ xs, xs = l ++ List.replicate k g0 := ⟨_, rfl⟩
    have hxl : xs.length = l.length + k := by rw [hxs]; simp
    have hxm : (xs.map (enc (α := Given))).length = l.length + k := by rw [List.length_map]; exact hxl
    rw [← hxs]
    have hB : ∀ ts, (mkA ts [(1000000, .box (.agg (xs.map (enc (α := Given)))))]).o 1000000 = some (.box (.agg (xs.map enc))) := fun _ => rfl
    refine AW.seq (AW.reg cd122_15 fun K hK => ?_)
    simp only [g122_15, bR, Nat.reduceEqDiff, reduceIte, Int.reduceBNe, Int.reduceBEq]
    rw [wrap_id ((i : Int) + ((1 : Nat) : Int)) (by omega) (by omega)]
    simp only [viewR, hxm, hi1, hd1, Option.map_none, Option.map_some, sliceV_lo (show i + 1 ≤ l.length + 1 by omega) (show l.length + 1 ≤ l.length + k by omega) (show i + 1 < l.length + k by omega), sliceV_lo (show i ≤ l.length + 1 by omega) (show l.length + 1 ≤ l.length + k by omega) (show i < l.length + k by omega), o_cpy, bR, Nat.reduceEqDiff, reduceIte, Int.reduceBNe, Int.reduceBEq]
    rw [srcL_view (xs := xs) (hB _) (by omega), cpyO_enc (xs := xs) (c := l.length - i) (hB _) (by omega) (by simp; omega)]
    obtain ⟨ys, hys⟩ : ∃ ys, ys = xs.take (i + 1) ++ (((xs.drop i).take (l.length + 1 - i)).take (l.length - i) ++ xs.drop (i + 1 + (l.length - i))) := ⟨_, rfl⟩
    have hyl : ys.length = l.length + k := by rw [hys]; simp; omega
    have hym : (ys.map (enc (α := Given))).length = l.length + k := by rw [List.length_map]; exact hyl
    rw [← hys]
    simp only [bR, Nat.reduceEqDiff, reduceIte, Int.reduceBNe, Int.reduceBEq]
    refine .done (hK _ ?_); clear hK K; simp only [thenQ, blockQ]
    have hC : ∀ ts z, (mkA ts [(1000000, .box (.agg (ys.map (enc (α := Given))))), (1000000, z)]).o 1000000 = some (.box (.agg (ys.map enc))) := fun _ _ => rfl
    refine AW.seq (AW.reg cd122_16 fun K hK => ?_)
    simp only [g122_16, bR, Nat.reduceEqDiff, reduceIte, Int.reduceBNe, Int.reduceBEq]
    simp only [viewR, hym, Option.map_none, Option.map_some, sliceV_lo (show i ≤ l.length + 1 by omega) (show l.length + 1 ≤ l.length + k by omega) (show i < l.length + k by omega), o_cpy, bR, Nat.reduceEqDiff, reduceIte, Int.reduceBNe, Int.reduceBEq]
    rw [srcL_enc _ 7 [g] rfl, cpyO_enc (xs := ys) (c := 1) (hC _ _) (by omega) (by simp; omega)]
    rw [list_in l i k g hlt hk1 xs hxs ys hys]
    simp only [bR, Nat.reduceEqDiff, reduceIte, Int.reduceBNe, Int.reduceBEq]
    refine .done (hK _ ?_); clear hK K; simp only [thenQ, blockQ]
    refine AW.seq (AW.reg cd122_17 fun K hK => ?_)
    simp only [g122_17, bR, Nat.reduceEqDiff, reduceIte, Int.reduceBNe, Int.reduceBEq]
    refine .done (hK _ ?_); clear hK K; simp only [thenQ, blockQ]
    refine AW.ret ?_
    simp only [blockQ, thenQ, retO_ret]
    exact ⟨rowG 1000000 (ins l i g) (k - 1), [.view 1000000 [] 7 0 (l.length + 1)], held1 rfl (fun p => map_only p _), ⟨⟨_, rfl, .inl ⟨rfl, rfl, rfl⟩⟩, trivial⟩, .inl ⟨k - 1, rfl, rfl⟩⟩
end Go.Proofs.Ytkjkbpgdpnapfaa

/-
  FUNCTIONS OF THE REFERENCE BY CONTRACT: with, Next.
-/
namespace Go.Proofs.Ytkjkbpgdpnapfaa
open Go Go.Abs
open Go.Abs.Enc (enc)
theorem gv_found {m : Marks} {o : Int} (hm : okM m = true) (hf : foundAt m.given o = false) {i : Nat} (hi : i < m.given.length) : (i < posOf m.given o → (gv m i).owner < o) ∧ (posOf m.given o ≤ i → o < (gv m i).owner) := by
  have hr := okM_rising hm
  refine ⟨fun h => by rw [← gv_eq hi]; exact posOf_lt hi h, fun h => ?_⟩
  have hp : posOf m.given o < m.given.length := by omega
  have h1 := posOf_ge (o := o) hr hp (Nat.le_refl _)
  have h2 : ¬ m.given[posOf m.given o].owner = o := by
    intro e
    simp [foundAt, hp, e] at hf
  rw [← gv_eq hi]
  by_cases e : posOf m.given o = i
  · simp only [← e]; omega
  · have := hr _ i hp hi (by omega)
    omega
/-- What the reference's book holds when i of the old ones have been laid. -/
def outW (l : List Given) (p : Nat) (g : Given) (i : Nat) : List Given := if p < i then ins (l.take i) p g else l.take i
theorem outW_succ (l : List Given) (p : Nat) (g : Given) {i : Nat} (h : i < l.length) : outW l p g (i + 1) = (if i = p then outW l p g i ++ [g] else outW l p g i) ++ [l[i]] := by
  simp only [outW]
  have ht : l.take (i + 1) = l.take i ++ [l[i]] := List.take_succ_eq_append_getElem h
  by_cases h1 : p < i
  · rw [if_pos (by omega), if_pos h1, if_neg (by omega), ht]
    simp only [ins]
    rw [List.take_append_of_le_length (by rw [List.length_take]; omega), List.drop_append_of_le_length (by rw [List.length_take]; omega)]
    simp
  · by_cases h2 : i = p
    · subst h2
      rw [if_pos (by omega), if_neg h1, if_pos rfl, ht]
      have hl : (l.take i).length = i := by rw [List.length_take]; omega
      simp only [ins]
      rw [List.take_append_of_le_length (by omega), List.take_of_length_le (by omega), List.drop_append_of_le_length (by omega), List.drop_eq_nil_of_le (by omega)]
      simp
    · rw [if_neg (by omega), if_neg h1, if_neg h2, ht]
theorem outW_len (l : List Given) (p : Nat) (g : Given) (i : Nat) : (outW l p g i).length ≤ l.length + 1 := by
  simp only [outW]
  split
  · by_cases h : i ≤ l.length
    · rw [ins_len g (by rw [List.length_take]; omega), List.length_take]; omega
    · rw [List.take_of_length_le (by omega)]
      simp only [ins, List.length_append, List.length_take, List.length_cons, List.length_drop]; omega
  · rw [List.length_take]; omega
theorem outW_end (l : List Given) (p : Nat) (g : Given) (h : p ≤ l.length) : (if p < l.length then outW l p g l.length else outW l p g l.length ++ [g]) = ins l p g := by
  simp only [outW, List.take_length]
  split
  · rfl
  · have : p = l.length := by omega
    rw [this, ins_end]
theorem F103 (m : Marks) (g : Given) (hm : okM m = true) (hf : foundAt m.given g.owner = false) : Ctr Try.prog 103 [enc m, enc g] (enc (⟨m.wear, m.fls, ins m.given (posOf m.given g.owner) g⟩ : Marks)) := by
  refine Ctr.mk' Try.func103 ca103 cc103 cr103 (Nat.le_of_ble_eq_true rfl) (fun hwf W0 D0 E1 => ?_)
  simp only [c103, r103, idx, Nat.zero_add, Nat.reduceAdd]
  have hlen := okM_len hm
  have hgf := fun i (hi : i < m.given.length) => gv_found hm hf hi
  have hpl : posOf m.given g.owner ≤ m.given.length := List.findIdx_le_length
  generalize posOf m.given g.owner = p at hgf hpl ⊢
  refine AW.seq (AW.reg cd103_0 fun K hK => ?_)
  simp only [g103_0, bR, Nat.reduceEqDiff, reduceIte, Int.reduceBNe, Int.reduceBEq]
  simp only [e_isVal, bR, Nat.reduceEqDiff, reduceIte, Int.reduceBNe, Int.reduceBEq]
  refine .done (hK _ ?_); clear hK K; simp only [thenQ, blockQ]
  refine AW.seq (AW.reg cd103_1 fun K hK => ?_)
  simp only [g103_1, bR, Nat.reduceEqDiff, reduceIte, Int.reduceBNe, Int.reduceBEq]
  simp only [typR, useR, okR, e_fin, e_a5, bldM2, bR, Nat.reduceEqDiff, reduceIte, Int.reduceBNe, Int.reduceBEq]
  obtain ⟨q1, q2, q3⟩ := bookL m.wear m.fls (.nils 7) rfl rfl rfl
  rw [stR3_ok q1 q2 (q3.trans (bookL (a5 0 0 0 0 0) 0 (.nils 7) rfl rfl rfl).2.2.symm)]
  simp only [setAt_nil, bR, Nat.reduceEqDiff, reduceIte, Int.reduceBNe, Int.reduceBEq]
  refine .done (hK _ ?_); clear hK K; simp only [thenQ, blockQ]
  refine AW.seq (AW.reg cd103_2 fun K hK => ?_)
  simp only [g103_2, bR, Nat.reduceEqDiff, reduceIte, Int.reduceBNe, Int.reduceBEq]
  refine .done (hK _ ?_); clear hK K; simp only [thenQ, blockQ]
  refine AW.seq (AW.seq ?_)
  refine AW.reg cd103_3 fun K hK => ?_
  simp only [g103_3, bR, Nat.reduceEqDiff, reduceIte, Int.reduceBNe, Int.reduceBEq]
  refine .done (hK _ ?_); clear hK K; simp only [thenQ, blockQ]
  refine AW.block (AW.loop (fun i : Nat => mkA [(2, .ptr 2 []), (3, .ptr 3 []), (4, .ptr 4 []), (5, .ptr 5 []), (6, .bool (decide (p < i))), (7, .int .i64 i)] [(1, .row 43 7 ((outW m.given p g i).map enc)), (2, .box (enc m)), (3, .box (enc g)), (4, .box (.agg [enc (a5 0 0 0 0 0), .int .i64 0, .nils 7])), (5, .box (.agg [enc m.wear, .int .i64 m.fls, .own 1 (outW m.given p g i).length]))]) (fun i => i ≤ m.given.length) (fun i => m.given.length - i) 0 (by omega) ?_ (fun i hi => ?_))
  · refine Sub.adoptBL 5 1 43 7 7 [2] (.agg [enc m.wear, .int .i64 m.fls, .nils 7]) ?_ rfl ?_ ?_
    · simp only [bR, Nat.reduceEqDiff, reduceIte, Int.reduceBNe, Int.reduceBEq]
    · simp only [bR, Nat.reduceEqDiff, reduceIte, Int.reduceBNe, Int.reduceBEq]
    · have e1 : (AV.agg [enc m.wear, .int .i64 m.fls, .nils 7]).setAt [2] (.own 1 0) = .agg [enc m.wear, .int .i64 m.fls, .own 1 0] := rfl
      have e2 : outW m.given p g 0 = [] := by simp [outW]
      have e3 : decide (p < 0) = false := by simp
      rw [e1, e3]
      simp only [e2, List.map_nil, List.length_nil]
      refine Sub.of_lists ?_ ?_ ?_ ?_ <;> simp [subT, subO, onlyT, onlyO, isIn, look_cons, lookO_cons, lookO_nil, AV.only, AV.onlys, AO.only, onlys_map, onlys_append, e_only, e_int, e_bool]
  have hol := outW_len m.given p g i
  refine AW.seq (AW.seq ?_)
  refine AW.reg cd103_4 fun K hK => ?_
  simp only [g103_4, bR, Nat.reduceEqDiff, reduceIte, Int.reduceBNe, Int.reduceBEq]
  try simp only [typR, useR, okR, e_fin, bR, Nat.reduceEqDiff, reduceIte, Int.reduceBNe, Int.reduceBEq]
  refine .done (hK _ ?_); clear hK K; simp only [thenQ, blockQ]
  refine AW.ite ?_
  simp only [condQ, bR, Nat.reduceEqDiff, reduceIte, Int.reduceBNe, Int.reduceBEq]
  refine ⟨fun h => ?_, fun h => ?_⟩
  case refine_2.refine_2 =>
    have hie : i = m.given.length := by simp at h; omega
    have hend := outW_end m.given p g hpl
    rw [← hie] at hend
    refine AW.exit ?_; simp only [thenQ, blockQ, reduceIte, Nat.reduceEqDiff]
    generalize outW m.given p g i = out at hend hol ⊢
    refine AW.seq (AW.seq ?_)
    generalize hz : decide (p < i) = bz
    refine AW.reg cd103_10 fun K hK => ?_
    simp only [g103_10, bR, Nat.reduceEqDiff, reduceIte, Int.reduceBNe, Int.reduceBEq]
    cases bz
    · have hpi : ¬ p < i := by simpa using hz
      rw [if_neg hpi] at hend
      try simp only [typR, useR, okR, e_fin, bR, Nat.reduceEqDiff, reduceIte, Int.reduceBNe, Int.reduceBEq]
      refine .done (hK _ ?_); clear hK K; simp only [thenQ, blockQ]
      refine AW.ite ?_
      simp only [condQ, bR, Nat.reduceEqDiff, reduceIte, Int.reduceBNe, Int.reduceBEq]
      refine ⟨fun h => ?_, fun h => ?_⟩
      · refine AW.reg cd103_11 fun K hK => ?_
        simp only [g103_11, bR, Nat.reduceEqDiff, reduceIte, Int.reduceBNe, Int.reduceBEq]
        simp only [offB, bsE_one 7 g rfl, typR, useR, okR, e_fin, bR, Nat.reduceEqDiff, reduceIte, Int.reduceBNe, Int.reduceBEq]
        rw [appR3_enc (α := Given) 43 7 56 1 rfl rfl (by simp) (by simp [maxLen]; omega) (by simp; omega)]
        simp only [offB, typR, useR, okR, e_fin, bR, Nat.reduceEqDiff, reduceIte, Int.reduceBNe, Int.reduceBEq]
        rw [stR3_ok (s := none) (v := .own 1 (out ++ [g]).length) (old := .own 1 out.length) rfl rfl rfl]
        have hset : (AV.agg [enc m.wear, .int .i64 m.fls, .own 1 out.length]).setAt [2] (.own 1 (out ++ [g]).length) = .agg [enc m.wear, .int .i64 m.fls, .own 1 (out ++ [g]).length] := rfl
        rw [hset]
        simp only [hend, bR, Nat.reduceEqDiff, reduceIte, Int.reduceBNe, Int.reduceBEq]
        refine .done (hK _ ?_); clear hK K; simp only [thenQ, blockQ]
        obtain ⟨s1, s2, s3⟩ := bookL m.wear m.fls (.own 1 (ins m.given p g).length) rfl rfl rfl
        refine AW.seq (AW.reg cd103_12 fun K hK => ?_)
        simp only [g103_12, bR, Nat.reduceEqDiff, reduceIte, Int.reduceBNe, Int.reduceBEq]
        try simp only [s2, bR, Nat.reduceEqDiff, reduceIte, Int.reduceBNe, Int.reduceBEq]
        rw [stR3_ok s1 s2 (s3.trans (bookL (a5 0 0 0 0 0) 0 (.nils 7) rfl rfl rfl).2.2.symm)]
        simp only [setAt_nil, bR, Nat.reduceEqDiff, reduceIte, Int.reduceBNe, Int.reduceBEq]
        refine .done (hK _ ?_); clear hK K; simp only [thenQ, blockQ]
        refine AW.ret ?_
        simp only [blockQ, thenQ, bR, Nat.reduceEqDiff, reduceIte, Int.reduceBNe, Int.reduceBEq]
        simp only [s2, finO_enc (α := Given) 7 rfl rfl, typR, e_fin, bR, Nat.reduceEqDiff, reduceIte, Int.reduceBNe, Int.reduceBEq]
        try rw [e_M]
      · cases h
    · have hpi : p < i := by simpa using hz
      rw [if_pos hpi] at hend
      try simp only [typR, useR, okR, e_fin, bR, Nat.reduceEqDiff, reduceIte, Int.reduceBNe, Int.reduceBEq]
      refine .done (hK _ ?_); clear hK K; simp only [thenQ, blockQ]
      refine AW.ite ?_
      simp only [condQ, bR, Nat.reduceEqDiff, reduceIte, Int.reduceBNe, Int.reduceBEq]
      refine ⟨fun h => ?_, fun h => ?_⟩
      · cases h
      refine AW.skip ?_; simp only [thenQ, blockQ, reduceIte, Nat.reduceEqDiff]
      rw [hend]
      obtain ⟨s1, s2, s3⟩ := bookL m.wear m.fls (.own 1 (ins m.given p g).length) rfl rfl rfl
      refine AW.seq (AW.reg cd103_12 fun K hK => ?_)
      simp only [g103_12, bR, Nat.reduceEqDiff, reduceIte, Int.reduceBNe, Int.reduceBEq]
      try simp only [s2, bR, Nat.reduceEqDiff, reduceIte, Int.reduceBNe, Int.reduceBEq]
      rw [stR3_ok s1 s2 (s3.trans (bookL (a5 0 0 0 0 0) 0 (.nils 7) rfl rfl rfl).2.2.symm)]
      simp only [setAt_nil, bR, Nat.reduceEqDiff, reduceIte, Int.reduceBNe, Int.reduceBEq]
      refine .done (hK _ ?_); clear hK K; simp only [thenQ, blockQ]
      refine AW.ret ?_
      simp only [blockQ, thenQ, bR, Nat.reduceEqDiff, reduceIte, Int.reduceBNe, Int.reduceBEq]
      simp only [s2, finO_enc (α := Given) 7 rfl rfl, typR, e_fin, bR, Nat.reduceEqDiff, reduceIte, Int.reduceBNe, Int.reduceBEq]
      try rw [e_M]
  have hlt : i < m.given.length := by simpa using h
  have hsucc := outW_succ m.given p g hlt
  rw [gv_eq hlt] at hsucc
  obtain ⟨hg1, hg2⟩ := hgf i hlt
  refine AW.skip ?_; simp only [thenQ, blockQ, reduceIte, Nat.reduceEqDiff]
  refine AW.seq (AW.block ?_)
  refine AW.seq ?_
  refine AW.seq (AW.via (mkA [(32, .bool (decide (i = p))), (2, .ptr 2 []), (3, .ptr 3 []), (4, .ptr 4 []), (5, .ptr 5 []), (6, .bool (decide (p < i))), (7, .int .i64 i)] [(1, .row 43 7 ((outW m.given p g i).map enc)), (2, .box (enc m)), (3, .box (enc g)), (4, .box (.agg [enc (a5 0 0 0 0 0), .int .i64 0, .nils 7])), (5, .box (.agg [enc m.wear, .int .i64 m.fls, .own 1 (outW m.given p g i).length]))]) ?_ fun B hB => ?_)
  · by_cases hpi : p < i
    · have e1 : decide (p < i) = true := by simp [hpi]
      have e2 : decide (i = p) = false := by simp; omega
      rw [e1, e2]
      refine AW.reg cd103_5 fun K hK => ?_
      simp only [g103_5, bR, Nat.reduceEqDiff, reduceIte, Int.reduceBNe, Int.reduceBEq]
      try simp only [typR, useR, okR, e_fin, bR, Nat.reduceEqDiff, reduceIte, Int.reduceBNe, Int.reduceBEq]
      refine .done (hK _ ?_); clear hK K; simp only [thenQ, blockQ]
      refine Sub.of_lists ?_ ?_ ?_ ?_ <;> simp [subT, subO, onlyT, onlyO, isIn, look_cons, lookO_cons, lookO_nil, AV.only, AV.onlys, AO.only, onlys_map, onlys_append, e_only, e_int, e_bool]
    · have e1 : decide (p < i) = false := by simp [hpi]
      have e3 : decide (g.owner < (gv m i).owner) = decide (i = p) := by
        by_cases e : i = p
        · have := hg2 (by omega); simp [e, this]; rw [← e]; exact this
        · have := hg1 (by omega); simp [e]; omega
      rw [e1]
      refine AW.reg cd103_5 fun K hK => ?_
      simp only [g103_5, bR, Nat.reduceEqDiff, reduceIte, Int.reduceBNe, Int.reduceBEq]
      simp only [isE_gv hlt, typR, useR, okR, e_fin, e3, bR, Nat.reduceEqDiff, reduceIte, Int.reduceBNe, Int.reduceBEq]
      refine .done (hK _ ?_); clear hK K; simp only [thenQ, blockQ]
      refine Sub.of_lists ?_ ?_ ?_ ?_ <;> simp [subT, subO, onlyT, onlyO, isIn, look_cons, lookO_cons, lookO_nil, AV.only, AV.onlys, AO.only, onlys_map, onlys_append, e_only, e_int, e_bool]
  simp only [thenQ, blockQ]
  refine AW.sub hB ?_
  generalize outW m.given p g i = out at hsucc hol ⊢
  by_cases hip : i = p
  · rw [if_pos hip] at hsucc
    have e2 : decide (i = p) = true := by simp [hip]
    rw [e2]
    refine AW.ite ?_
    simp only [condQ, bR, Nat.reduceEqDiff, reduceIte, Int.reduceBNe, Int.reduceBEq]
    refine ⟨fun h => ?_, fun h => ?_⟩
    · refine AW.seq (AW.reg cd103_6 fun K hK => ?_)
      simp only [g103_6, bR, Nat.reduceEqDiff, reduceIte, Int.reduceBNe, Int.reduceBEq]
      simp only [offB, bsE_one 7 g rfl, typR, useR, okR, e_fin, bR, Nat.reduceEqDiff, reduceIte, Int.reduceBNe, Int.reduceBEq]
      rw [appR3_enc (α := Given) 43 7 56 1 rfl rfl (by simp) (by simp [maxLen]; omega) (by simp; omega)]
      simp only [offB, typR, useR, okR, e_fin, bR, Nat.reduceEqDiff, reduceIte, Int.reduceBNe, Int.reduceBEq]
      rw [stR3_ok (s := none) (v := .own 1 (out ++ [g]).length) (old := .own 1 out.length) rfl rfl rfl]
      have hset : (AV.agg [enc m.wear, .int .i64 m.fls, .own 1 out.length]).setAt [2] (.own 1 (out ++ [g]).length) = .agg [enc m.wear, .int .i64 m.fls, .own 1 (out ++ [g]).length] := rfl
      simp only [hset, bR, Nat.reduceEqDiff, reduceIte, Int.reduceBNe, Int.reduceBEq]
      refine .done (hK _ ?_); clear hK K; simp only [thenQ, blockQ]
      refine AW.reg cd103_7 fun K hK => ?_
      simp only [g103_7, bR, Nat.reduceEqDiff, reduceIte, Int.reduceBNe, Int.reduceBEq]
      refine .done (hK _ ?_); clear hK K; simp only [thenQ, blockQ]
      obtain ⟨out2, ho2⟩ : ∃ out2, out2 = out ++ [g] := ⟨_, rfl⟩
      have hol2 : out2.length ≤ m.given.length + 2 := by rw [ho2]; simp; omega
      rw [← ho2] at hsucc ⊢
      refine AW.reg cd103_8 fun K hK => ?_
      simp only [g103_8, bR, Nat.reduceEqDiff, reduceIte, Int.reduceBNe, Int.reduceBEq]
      simp only [isE_gv hlt, offB, typR, useR, okR, e_fin, bR, Nat.reduceEqDiff, reduceIte, Int.reduceBNe, Int.reduceBEq]
      simp only [bsE_one 7 (gv m i) rfl, bR, Nat.reduceEqDiff, reduceIte, Int.reduceBNe, Int.reduceBEq]
      rw [appR3_enc (α := Given) 43 7 56 1 rfl rfl (by simp) (by simp [maxLen]; omega) (by simp; omega)]
      simp only [offB, typR, useR, okR, e_fin, bR, Nat.reduceEqDiff, reduceIte, Int.reduceBNe, Int.reduceBEq]
      rw [stR3_ok (s := none) (v := .own 1 (out2 ++ [gv m i]).length) (old := .own 1 out2.length) rfl rfl rfl]
      have hset2 : (AV.agg [enc m.wear, .int .i64 m.fls, .own 1 out2.length]).setAt [2] (.own 1 (out2 ++ [gv m i]).length) = .agg [enc m.wear, .int .i64 m.fls, .own 1 (out2 ++ [gv m i]).length] := rfl
      simp only [hset2, bR, Nat.reduceEqDiff, reduceIte, Int.reduceBNe, Int.reduceBEq]
      refine .done (hK _ ?_); clear hK K; simp only [thenQ, blockQ]
      refine AW.reg cd103_9 fun K hK => ?_
      simp only [g103_9, bR, Nat.reduceEqDiff, reduceIte, Int.reduceBNe, Int.reduceBEq]
      refine .done (hK _ ?_); clear hK K; simp only [thenQ, blockQ]
      refine ⟨i + 1, by omega, by omega, ?_⟩
      have e4 : decide (p < i + 1) = true := by simp; omega
      rw [wrap_id _ (by omega) (by omega), hsucc, e4]
      refine Sub.of_lists ?_ ?_ ?_ ?_ <;> simp [subT, subO, onlyT, onlyO, isIn, look_cons, lookO_cons, lookO_nil, AV.only, AV.onlys, AO.only, onlys_map, onlys_append, e_only, e_int, e_bool]
    · cases h
  · rw [if_neg hip] at hsucc
    have e2 : decide (i = p) = false := by simp [hip]
    rw [e2]
    refine AW.ite ?_
    simp only [condQ, bR, Nat.reduceEqDiff, reduceIte, Int.reduceBNe, Int.reduceBEq]
    refine ⟨fun h => ?_, fun h => ?_⟩
    · cases h
    refine AW.skip ?_; simp only [thenQ, blockQ, reduceIte, Nat.reduceEqDiff]
    refine AW.reg cd103_8 fun K hK => ?_
    simp only [g103_8, bR, Nat.reduceEqDiff, reduceIte, Int.reduceBNe, Int.reduceBEq]
    simp only [isE_gv hlt, offB, typR, useR, okR, e_fin, bR, Nat.reduceEqDiff, reduceIte, Int.reduceBNe, Int.reduceBEq]
    simp only [bsE_one 7 (gv m i) rfl, bR, Nat.reduceEqDiff, reduceIte, Int.reduceBNe, Int.reduceBEq]
    rw [appR3_enc (α := Given) 43 7 56 1 rfl rfl (by simp) (by simp [maxLen]; omega) (by simp; omega)]
    simp only [offB, typR, useR, okR, e_fin, bR, Nat.reduceEqDiff, reduceIte, Int.reduceBNe, Int.reduceBEq]
    rw [stR3_ok (s := none) (v := .own 1 (out ++ [gv m i]).length) (old := .own 1 out.length) rfl rfl rfl]
    have hset2 : (AV.agg [enc m.wear, .int .i64 m.fls, .own 1 out.length]).setAt [2] (.own 1 (out ++ [gv m i]).length) = .agg [enc m.wear, .int .i64 m.fls, .own 1 (out ++ [gv m i]).length] := rfl
    simp only [hset2, bR, Nat.reduceEqDiff, reduceIte, Int.reduceBNe, Int.reduceBEq]
    refine .done (hK _ ?_); clear hK K; simp only [thenQ, blockQ]
    refine AW.reg cd103_9 fun K hK => ?_
    simp only [g103_9, bR, Nat.reduceEqDiff, reduceIte, Int.reduceBNe, Int.reduceBEq]
    refine .done (hK _ ?_); clear hK K; simp only [thenQ, blockQ]
    refine ⟨i + 1, by omega, by omega, ?_⟩
    have e4 : decide (p < i + 1) = decide (p < i) := by
      by_cases hpi : p < i
      · simp [hpi]; omega
      · simp [hpi]; omega
    rw [wrap_id _ (by omega) (by omega), hsucc, e4]
    refine Sub.of_lists ?_ ?_ ?_ ?_ <;> simp [subT, subO, onlyT, onlyO, isIn, look_cons, lookO_cons, lookO_nil, AV.only, AV.onlys, AO.only, onlys_map, onlys_append, e_only, e_int, e_bool]
theorem F56 (m : Marks) : Ctr Try.prog 56 [enc m] (.tuple [enc (nextOf m).1, enc (nextOf m).2]) := by
  refine Ctr.mk' Try.func56 ca56 cc56 cr56 (Nat.le_of_ble_eq_true rfl) (fun hwf W0 D0 E1 => ?_)
  simp only [c56, r56, idx, Nat.zero_add, Nat.reduceAdd]
  refine AW.seq (AW.reg cd56_0 fun K hK => ?_)
  simp only [g56_0, bR, Nat.reduceEqDiff, reduceIte, Int.reduceBNe, Int.reduceBEq]
  simp only [e_isVal, e_zero6, bR, Nat.reduceEqDiff, reduceIte, Int.reduceBNe, Int.reduceBEq]
  refine .done (hK _ ?_); clear hK K; simp only [thenQ, blockQ]
  refine AW.seq (AW.seq ?_)
  refine AW.reg cd56_1 fun K hK => ?_
  simp only [g56_1, bR, Nat.reduceEqDiff, reduceIte, Int.reduceBNe, Int.reduceBEq]
  try simp only [typR, useR, okR, e_fin, bR, Nat.reduceEqDiff, reduceIte, Int.reduceBNe, Int.reduceBEq]
  refine .flat _ (F48 m) rfl ?_
  generalize hm : okM m = bm
  cases bm
  · try simp only [typR, useR, okR, e_fin, bR, Nat.reduceEqDiff, reduceIte, Int.reduceBNe, Int.reduceBEq]
    refine .done (hK _ ?_); clear hK K; simp only [thenQ, blockQ]
    refine AW.ite ?_
    simp only [condQ, bR, Nat.reduceEqDiff, reduceIte, Int.reduceBNe, Int.reduceBEq]
    refine ⟨fun h => ?_, fun h => ?_⟩
    · refine AW.seq (AW.reg cd56_2 fun K hK => ?_)
      simp only [g56_2, bR, Nat.reduceEqDiff, reduceIte, Int.reduceBNe, Int.reduceBEq]
      simp only [setParts, e_zero6, stR3_6, bR, Nat.reduceEqDiff, reduceIte, Int.reduceBNe, Int.reduceBEq]
      refine .done (hK _ ?_); clear hK K; simp only [thenQ, blockQ]
      refine AW.ret ?_
      simp only [blockQ, thenQ, bR, Nat.reduceEqDiff, reduceIte, Int.reduceBNe, Int.reduceBEq]
      simp only [typR, e_fin, bR, Nat.reduceEqDiff, reduceIte, Int.reduceBNe, Int.reduceBEq]
      simp [nextOf, hm, e_int]
    · cases h
  try simp only [typR, useR, okR, e_fin, bR, Nat.reduceEqDiff, reduceIte, Int.reduceBNe, Int.reduceBEq]
  refine .done (hK _ ?_); clear hK K; simp only [thenQ, blockQ]
  refine AW.ite ?_
  simp only [condQ, bR, Nat.reduceEqDiff, reduceIte, Int.reduceBNe, Int.reduceBEq]
  refine ⟨fun h => ?_, fun h => ?_⟩
  · cases h
  refine AW.skip ?_; simp only [thenQ, blockQ, reduceIte, Nat.reduceEqDiff]
  refine AW.seq (AW.seq ?_)
  refine AW.reg cd56_3 fun K hK => ?_
  simp only [g56_3, bR, Nat.reduceEqDiff, reduceIte, Int.reduceBNe, Int.reduceBEq]
  try simp only [typR, useR, okR, e_fin, bR, Nat.reduceEqDiff, reduceIte, Int.reduceBNe, Int.reduceBEq]
  refine .done (hK _ ?_); clear hK K; simp only [thenQ, blockQ]
  refine AW.ite ?_
  simp only [condQ, bR, Nat.reduceEqDiff, reduceIte, Int.reduceBNe, Int.reduceBEq]
  refine ⟨fun h => ?_, fun h => ?_⟩
  · refine AW.seq (AW.reg cd56_4 fun K hK => ?_)
    simp only [g56_4, bR, Nat.reduceEqDiff, reduceIte, Int.reduceBNe, Int.reduceBEq]
    simp only [setParts, e_zero6, stR3_6, bR, Nat.reduceEqDiff, reduceIte, Int.reduceBNe, Int.reduceBEq]
    refine .done (hK _ ?_); clear hK K; simp only [thenQ, blockQ]
    have h40 : m.given.length = 40 := by simp at h; omega
    refine AW.ret ?_
    simp only [blockQ, thenQ, bR, Nat.reduceEqDiff, reduceIte, Int.reduceBNe, Int.reduceBEq]
    simp only [typR, e_fin, bR, Nat.reduceEqDiff, reduceIte, Int.reduceBNe, Int.reduceBEq]
    simp [nextOf, hm, h40, e_int]
  have h40 : ¬ m.given.length = 40 := by simp at h; omega
  have hbk := okM_book hm
  refine AW.skip ?_; simp only [thenQ, blockQ, reduceIte, Nat.reduceEqDiff]
  refine AW.seq (AW.seq ?_)
  refine AW.reg cd56_5 fun K hK => ?_
  simp only [g56_5, bR, Nat.reduceEqDiff, reduceIte, Int.reduceBNe, Int.reduceBEq]
  refine .done (hK _ ?_); clear hK K; simp only [thenQ, blockQ]
  refine AW.block (AW.loop (fun n : Nat => mkA [(1, .ptr 1 []), (2, .ptr 2 []), (4, .int .i64 n)] [(1, .box (enc m)), (2, .box (enc zero6))]) (fun n => n ≤ 15625 ∧ ∀ k, k < n → blocked m (dgs k) = true) (fun n => 15625 - n) 0 ⟨by omega, fun k h => by omega⟩ ?_ (fun n hn => ?_))
  · refine Sub.of_lists ?_ ?_ ?_ ?_ <;> simp [subT, subO, onlyT, onlyO, isIn, look_cons, lookO_cons, lookO_nil, AV.only, AV.onlys, AO.only, onlys_map, onlys_append, e_only, e_int, e_bool]
  refine AW.seq (AW.seq ?_)
  refine AW.reg cd56_6 fun K hK => ?_
  simp only [g56_6, bR, Nat.reduceEqDiff, reduceIte, Int.reduceBNe, Int.reduceBEq]
  refine .done (hK _ ?_); clear hK K; simp only [thenQ, blockQ]
  refine AW.ite ?_
  simp only [condQ, bR, Nat.reduceEqDiff, reduceIte, Int.reduceBNe, Int.reduceBEq]
  refine ⟨fun h => ?_, fun h => ?_⟩
  · have hlt : n < 15625 := by simp at h; omega
    refine AW.skip ?_; simp only [thenQ, blockQ, reduceIte, Nat.reduceEqDiff]
    refine AW.seq (AW.block ?_)
    refine AW.seq (AW.reg cd56_7 fun K hK => ?_)
    simp only [g56_7, bR, Nat.reduceEqDiff, reduceIte, Int.reduceBNe, Int.reduceBEq]
    try simp only [typR, useR, okR, e_fin, bR, Nat.reduceEqDiff, reduceIte, Int.reduceBNe, Int.reduceBEq]
    refine .lead _ (F35 (n : Int)) ?_
    rw [digits_dgs]
    simp only [e_a6, e_zero6, stR3_6, typR, useR, okR, bR, Nat.reduceEqDiff, reduceIte, Int.reduceBNe, Int.reduceBEq]
    refine .done (hK _ ?_); clear hK K; simp only [thenQ, blockQ]
    refine AW.seq ?_
    refine AW.reg cd56_8 fun K hK => ?_
    simp only [g56_8, bR, Nat.reduceEqDiff, reduceIte, Int.reduceBNe, Int.reduceBEq]
    simp only [typR, useR, okR, e_fin, bR, Nat.reduceEqDiff, reduceIte, Int.reduceBNe, Int.reduceBEq]
    refine .flat _ (F83 m (dgs n) hbk (okMark_dgs n)) rfl ?_
    have hbl : (m.given.any fun g => decide ((cnt (apartAt m.wear g.mark (dgs n)) 6 : Int) ≤ IntKind.i64.wrap (2 * m.fls))) = blocked m (dgs n) := rfl
    rw [hbl]
    try simp only [typR, useR, okR, e_fin, bR, Nat.reduceEqDiff, reduceIte, Int.reduceBNe, Int.reduceBEq]
    refine .done (hK _ ?_); clear hK K; simp only [thenQ, blockQ]
    generalize hb : blocked m (dgs n) = b
    cases b
    · refine AW.ite ?_
      simp only [condQ, bR, Nat.reduceEqDiff, reduceIte, Int.reduceBNe, Int.reduceBEq]
      refine ⟨fun h => ?_, fun h => ?_⟩
      · refine AW.seq (AW.reg cd56_9 fun K hK => ?_)
        simp only [g56_9, bR, Nat.reduceEqDiff, reduceIte, Int.reduceBNe, Int.reduceBEq]
        simp only [typR, useR, okR, stR3_6, bR, Nat.reduceEqDiff, reduceIte, Int.reduceBNe, Int.reduceBEq]
        refine .done (hK _ ?_); clear hK K; simp only [thenQ, blockQ]
        have hk : nextK m = some n := find_range _ hlt (by rw [hb]; rfl) (fun j hj => by rw [hn.2 j hj]; rfl)
        refine AW.ret ?_
        simp only [blockQ, thenQ, bR, Nat.reduceEqDiff, reduceIte, Int.reduceBNe, Int.reduceBEq]
        simp only [typR, e_fin, bR, Nat.reduceEqDiff, reduceIte, Int.reduceBNe, Int.reduceBEq]
        simp [nextOf, hm, h40, hk, e_int]
      · cases h
    · refine AW.ite ?_
      simp only [condQ, bR, Nat.reduceEqDiff, reduceIte, Int.reduceBNe, Int.reduceBEq]
      refine ⟨fun h => ?_, fun h => ?_⟩
      · cases h
      refine AW.skip ?_; simp only [thenQ, blockQ, reduceIte, Nat.reduceEqDiff]
      refine AW.reg cd56_10 fun K hK => ?_
      simp only [g56_10, bR, Nat.reduceEqDiff, reduceIte, Int.reduceBNe, Int.reduceBEq]
      refine .done (hK _ ?_); clear hK K; simp only [thenQ, blockQ]
      refine ⟨n + 1, ⟨by omega, fun k hk => ?_⟩, by omega, ?_⟩
      · by_cases e : k = n
        · subst e; exact hb
        · exact hn.2 k (by omega)
      · rw [wrap_id _ (by omega) (by omega)]
        refine Sub.of_lists ?_ ?_ ?_ ?_ <;> simp [subT, subO, onlyT, onlyO, isIn, look_cons, lookO_cons, lookO_nil, AV.only, AV.onlys, AO.only, onlys_map, onlys_append, e_only, e_int, e_bool]
  have hne : n = 15625 := by simp at h; omega
  refine AW.exit ?_; simp only [thenQ, blockQ, reduceIte, Nat.reduceEqDiff]
  refine AW.seq (AW.reg cd56_11 fun K hK => ?_)
  simp only [g56_11, bR, Nat.reduceEqDiff, reduceIte, Int.reduceBNe, Int.reduceBEq]
  simp only [setParts, e_zero6, stR3_6, bR, Nat.reduceEqDiff, reduceIte, Int.reduceBNe, Int.reduceBEq]
  refine .done (hK _ ?_); clear hK K; simp only [thenQ, blockQ]
  have hk : nextK m = none := find_range_none _ (fun k hk => by rw [hn.2 k (by omega)]; rfl)
  refine AW.ret ?_
  simp only [blockQ, thenQ, bR, Nat.reduceEqDiff, reduceIte, Int.reduceBNe, Int.reduceBEq]
  simp only [typR, e_fin, bR, Nat.reduceEqDiff, reduceIte, Int.reduceBNe, Int.reduceBEq]
  simp [nextOf, hm, h40, hk, e_int]
end Go.Proofs.Ytkjkbpgdpnapfaa

/-
  FUNCTIONS OF mark BY CONTRACT: with.
-/
namespace Go.Proofs.Ytkjkbpgdpnapfaa
open Go Go.Abs
open Go.Abs.Enc (enc)
def insNil (g : Given) : Post := fun r os' => ∃ q, r = .view 25 [] 7 0 1 ∧ os' = rowG 25 [g] q
theorem slE_empty (A : AState) : slE A 7 (some (.int .i64 0)) none none (.c0 7) = some (.slice 7 []) ∧ slE A 7 (some (.int .i64 0)) none none (.nils 7) = some (.slice 7 []) := by
  constructor <;> simp [slE, sliceOf, bound]
theorem F122n (x : AV) (hx : x = .nils 7 ∨ x = .c0 7) (g : Given) : CtrO Try.prog 122 [x, enc (0 : Int), enc [g]] [] (insNil g) := by
  rcases hx with rfl | rfl
  · refine CtrO.mk' Try.func122 ca122 cc122 cr122 (Nat.le_of_ble_eq_true rfl) (Nat.le_of_ble_eq_true rfl) (fun m hm => by simp [isIn, lookO] at hm) (fun hwf W0 D0 E1 => ?_)
    simp only [c122, r122, idx, Nat.zero_add, Nat.reduceAdd]
    refine AW.seq (AW.reg cd122_0 fun K hK => ?_)
    simp only [g122_0, bR, Nat.reduceEqDiff, reduceIte, Int.reduceBNe, Int.reduceBEq]
    refine .done (hK _ ?_); clear hK K; simp only [thenQ, blockQ]
    refine AW.seq (AW.reg cd122_1 fun K hK => ?_)
    simp only [g122_1, bR, Nat.reduceEqDiff, reduceIte, Int.reduceBNe, Int.reduceBEq]
    simp only [Option.map_none, Option.map_some, e_int, (slE_empty _).1, (slE_empty _).2, bR, Nat.reduceEqDiff, reduceIte, Int.reduceBNe, Int.reduceBEq]
    refine .done (hK _ ?_); clear hK K; simp only [thenQ, blockQ]
    refine AW.seq (AW.reg cd122_2 fun K hK => ?_)
    simp only [g122_2, bR, Nat.reduceEqDiff, reduceIte, Int.reduceBNe, Int.reduceBEq]
    try simp only [typR, useR, okR, e_fin, bR, Nat.reduceEqDiff, reduceIte, Int.reduceBNe, Int.reduceBEq]
    refine .done (hK _ ?_); clear hK K; simp only [thenQ, blockQ]
    refine AW.seq (AW.seq ?_)
    refine AW.reg cd122_3 fun K hK => ?_
    simp only [g122_3, bR, Nat.reduceEqDiff, reduceIte, Int.reduceBNe, Int.reduceBEq]
    try simp only [typR, useR, okR, e_fin, bR, Nat.reduceEqDiff, reduceIte, Int.reduceBNe, Int.reduceBEq]
    refine .done (hK _ ?_); clear hK K; simp only [thenQ, blockQ]
    refine AW.ite ?_
    simp only [condQ, bR, Nat.reduceEqDiff, reduceIte, Int.reduceBNe, Int.reduceBEq]
    refine ⟨fun h => ?_, fun h => ?_⟩
    · first | cases h | simp at h
    refine AW.skip ?_; simp only [thenQ, blockQ, reduceIte, Nat.reduceEqDiff]
    refine AW.seq (AW.reg cd122_5 fun K hK => ?_)
    simp only [g122_5, bR, Nat.reduceEqDiff, reduceIte, Int.reduceBNe, Int.reduceBEq]
    try simp only [typR, useR, okR, e_fin, bR, Nat.reduceEqDiff, reduceIte, Int.reduceBNe, Int.reduceBEq]
    refine .done (hK _ ?_); clear hK K; simp only [thenQ, blockQ]
    refine AW.seq (AW.seq ?_)
    refine AW.reg cd122_6 fun K hK => ?_
    simp only [g122_6, bR, Nat.reduceEqDiff, reduceIte, Int.reduceBNe, Int.reduceBEq]
    try simp only [typR, useR, okR, e_fin, bR, Nat.reduceEqDiff, reduceIte, Int.reduceBNe, Int.reduceBEq]
    refine .done (hK _ ?_); clear hK K; simp only [thenQ, blockQ]
    refine AW.ite ?_
    simp only [condQ, bR, Nat.reduceEqDiff, reduceIte, Int.reduceBNe, Int.reduceBEq]
    refine ⟨fun h => ?_, fun h => ?_⟩
    case refine_2.refine_2 => first | cases h | simp at h
    refine AW.seq (AW.reg cd122_7 fun K hK => ?_)
    simp only [g122_7, bR, Nat.reduceEqDiff, reduceIte, Int.reduceBNe, Int.reduceBEq]
    simp only [e_g0, bR, Nat.reduceEqDiff, reduceIte, Int.reduceBNe, Int.reduceBEq]
    refine WP.appNils (esz := 7) g0 (l := [g]) rfl (by simp) rfl (by simp) (by simp [maxLen]) fun q => ?_
    simp only [bR, Nat.reduceEqDiff, reduceIte, Int.reduceBNe, Int.reduceBEq]
    refine .done (hK _ ?_); clear hK K; simp only [thenQ, blockQ]
    refine AW.ret ?_
    simp only [blockQ, thenQ, retO_ret]
    exact ⟨rowG 25 [g] q, [.view 25 [] 7 0 1], held1 rfl (fun p => map_only p _), ⟨⟨_, rfl, .inl ⟨rfl, rfl, rfl⟩⟩, trivial⟩, q, rfl, rfl⟩
  · refine CtrO.mk' Try.func122 ca122 cc122 cr122 (Nat.le_of_ble_eq_true rfl) (Nat.le_of_ble_eq_true rfl) (fun m hm => by simp [isIn, lookO] at hm) (fun hwf W0 D0 E1 => ?_)
    simp only [c122, r122, idx, Nat.zero_add, Nat.reduceAdd]
    refine AW.seq (AW.reg cd122_0 fun K hK => ?_)
    simp only [g122_0, bR, Nat.reduceEqDiff, reduceIte, Int.reduceBNe, Int.reduceBEq]
    refine .done (hK _ ?_); clear hK K; simp only [thenQ, blockQ]
    refine AW.seq (AW.reg cd122_1 fun K hK => ?_)
    simp only [g122_1, bR, Nat.reduceEqDiff, reduceIte, Int.reduceBNe, Int.reduceBEq]
    simp only [Option.map_none, Option.map_some, e_int, (slE_empty _).1, (slE_empty _).2, bR, Nat.reduceEqDiff, reduceIte, Int.reduceBNe, Int.reduceBEq]
    refine .done (hK _ ?_); clear hK K; simp only [thenQ, blockQ]
    refine AW.seq (AW.reg cd122_2 fun K hK => ?_)
    simp only [g122_2, bR, Nat.reduceEqDiff, reduceIte, Int.reduceBNe, Int.reduceBEq]
    try simp only [typR, useR, okR, e_fin, bR, Nat.reduceEqDiff, reduceIte, Int.reduceBNe, Int.reduceBEq]
    refine .done (hK _ ?_); clear hK K; simp only [thenQ, blockQ]
    refine AW.seq (AW.seq ?_)
    refine AW.reg cd122_3 fun K hK => ?_
    simp only [g122_3, bR, Nat.reduceEqDiff, reduceIte, Int.reduceBNe, Int.reduceBEq]
    try simp only [typR, useR, okR, e_fin, bR, Nat.reduceEqDiff, reduceIte, Int.reduceBNe, Int.reduceBEq]
    refine .done (hK _ ?_); clear hK K; simp only [thenQ, blockQ]
    refine AW.ite ?_
    simp only [condQ, bR, Nat.reduceEqDiff, reduceIte, Int.reduceBNe, Int.reduceBEq]
    refine ⟨fun h => ?_, fun h => ?_⟩
    · first | cases h | simp at h
    refine AW.skip ?_; simp only [thenQ, blockQ, reduceIte, Nat.reduceEqDiff]
    refine AW.seq (AW.reg cd122_5 fun K hK => ?_)
    simp only [g122_5, bR, Nat.reduceEqDiff, reduceIte, Int.reduceBNe, Int.reduceBEq]
    try simp only [typR, useR, okR, e_fin, bR, Nat.reduceEqDiff, reduceIte, Int.reduceBNe, Int.reduceBEq]
    refine .done (hK _ ?_); clear hK K; simp only [thenQ, blockQ]
    refine AW.seq (AW.seq ?_)
    refine AW.reg cd122_6 fun K hK => ?_
    simp only [g122_6, bR, Nat.reduceEqDiff, reduceIte, Int.reduceBNe, Int.reduceBEq]
    try simp only [typR, useR, okR, e_fin, bR, Nat.reduceEqDiff, reduceIte, Int.reduceBNe, Int.reduceBEq]
    refine .done (hK _ ?_); clear hK K; simp only [thenQ, blockQ]
    refine AW.ite ?_
    simp only [condQ, bR, Nat.reduceEqDiff, reduceIte, Int.reduceBNe, Int.reduceBEq]
    refine ⟨fun h => ?_, fun h => ?_⟩
    case refine_2.refine_2 => first | cases h | simp at h
    refine AW.seq (AW.reg cd122_7 fun K hK => ?_)
    simp only [g122_7, bR, Nat.reduceEqDiff, reduceIte, Int.reduceBNe, Int.reduceBEq]
    simp only [e_g0, bR, Nat.reduceEqDiff, reduceIte, Int.reduceBNe, Int.reduceBEq]
    refine WP.appNew (esz := 7) g0 (l := [g]) rfl (by simp) rfl (by simp) (by simp [maxLen]) fun q => ?_
    simp only [bR, Nat.reduceEqDiff, reduceIte, Int.reduceBNe, Int.reduceBEq]
    refine .done (hK _ ?_); clear hK K; simp only [thenQ, blockQ]
    refine AW.ret ?_
    simp only [blockQ, thenQ, retO_ret]
    exact ⟨rowG 25 [g] q, [.view 25 [] 7 0 1], held1 rfl (fun p => map_only p _), ⟨⟨_, rfl, .inl ⟨rfl, rfl, rfl⟩⟩, trivial⟩, q, rfl, rfl⟩
theorem Bck.oneR {bx : Bool} {ρ : List (Nat × Nat)} {k : Nat} {x : AO} {os0 : List (Nat × AO)} {r c : AV} (h1 : ∀ p, c.only p = true) (h2 : bx = true → c.lean = true) (h3 : r.only (isIn [(k, .box c)]) = true) (h4 : bx = true → r.lean = true) : Bck bx ρ [(k, x)] os0 r [(k, .box c)] := by
  refine ⟨fun m x h => ?_, fun m m' h h' _ => ?_, fun m h => ?_, fun m h h' => ?_, h3, h4⟩
  · simp only [lookO] at h
    split at h
    · simp only [Option.some.injEq] at h; subst h; exact ⟨h1 _, rfl, h2⟩
    · cases h
  · rw [isIn_one.1 h, isIn_one.1 h']
  · rw [isIn_one.1 h]; exact isIn_one.2 rfl
  · rw [isIn_one.1 h] at h'
    have : isIn [(k, x)] k = true := isIn_one.2 rfl
    rw [this] at h'; cases h'
theorem Bck.two {bx : Bool} {ρ : List (Nat × Nat)} {k k' d d' : Nat} {x : AO} {os0 : List (Nat × AO)} {r c c' : AV} (hk : rnm ρ k = d) (hk' : rnm ρ k' = d') (hd : d ≠ d') (hne : k ≠ k') (h1 : ∀ p, c.only p = true) (h2 : bx = true → c.lean = true) (h1' : ∀ p, c'.only p = true) (h2' : bx = true → c'.lean = true)
    (h3 : r.only (isIn [(k, .box c), (k', .box c')]) = true) (h4 : bx = true → r.lean = true) (h5 : lookO os0 d = none) (h6 : d < 1000000) : Bck bx ρ [(k', x)] os0 r [(k, .box c), (k', .box c')] := by
  have two : ∀ m, isIn [(k, AO.box c), (k', AO.box c')] m = true → m = k ∨ m = k' := fun m h => by
    simp only [isIn, lookO] at h
    split at h
    · rename_i e; exact .inl e
    · split at h
      · rename_i e; exact .inr e
      · cases h
  refine ⟨fun m y h => ?_, fun m m' h h' e => ?_, fun m h => ?_, fun m h h' => ?_, h3, h4⟩
  · simp only [lookO] at h
    split at h
    · simp only [Option.some.injEq] at h; subst h; exact ⟨h1 _, rfl, h2⟩
    · split at h
      · simp only [Option.some.injEq] at h; subst h; exact ⟨h1' _, rfl, h2'⟩
      · cases h
  · rcases two m h with rfl | rfl <;> rcases two m' h' with rfl | rfl
    · rfl
    · rw [hk, hk'] at e; exact absurd e hd
    · rw [hk, hk'] at e; exact absurd e.symm hd
    · rfl
  · rw [isIn_one.1 h]
    simp [isIn, lookO, Ne.symm hne]
  · rcases two m h with rfl | rfl
    · rw [hk]; exact ⟨h5, h6⟩
    · have : isIn [(m, x)] m = true := isIn_one.2 rfl
      rw [this] at h'; cases h'
theorem F102 (m : Marks) (g : Given) (hm : okM m = true) (ho : 1 ≤ g.owner ∧ g.owner ≤ 99) : Ctr Try.prog 102 [enc m, enc g] (enc (⟨m.wear, m.fls, ins m.given (posOf m.given g.owner) g⟩ : Marks)) := by
  refine Ctr.mk' Try.func102 ca102 cc102 cr102 (Nat.le_of_ble_eq_true rfl) (fun hwf W0 D0 E1 => ?_)
  simp only [c102, r102, idx, Nat.zero_add, Nat.reduceAdd]
  have hlen := okM_len hm
  refine AW.seq (AW.reg cd102_0 fun K hK => ?_)
  simp only [g102_0, bR, Nat.reduceEqDiff, reduceIte, Int.reduceBNe, Int.reduceBEq]
  simp only [e_isVal, bR, Nat.reduceEqDiff, reduceIte, Int.reduceBNe, Int.reduceBEq]
  refine .done (hK _ ?_); clear hK K; simp only [thenQ, blockQ]
  refine AW.seq (AW.reg cd102_1 fun K hK => ?_)
  simp only [g102_1, bR, Nat.reduceEqDiff, reduceIte, Int.reduceBNe, Int.reduceBEq]
  try simp only [typR, useR, okR, e_fin, bR, Nat.reduceEqDiff, reduceIte, Int.reduceBNe, Int.reduceBEq]
  refine .lead _ (F91 m g.owner hm ho) ?_
  try simp only [typR, useR, okR, e_fin, bR, Nat.reduceEqDiff, reduceIte, Int.reduceBNe, Int.reduceBEq]
  refine .done (hK _ ?_); clear hK K; simp only [thenQ, blockQ]
  refine AW.seq (AW.regO [122] l102_2 [0, 1, 3, 4, 5, 2, 6, 7, 8] (by kernel_rfl) fun K hK => ?_)
  simp only [permG, g102_2, List.map_cons, List.map_nil, List.getD_cons_zero, List.getD_cons_succ, typR, useR, okR, e_fin, bR, Nat.reduceEqDiff, reduceIte, Int.reduceBNe, Int.reduceBEq]
  obtain ⟨L, hL⟩ : ∃ L, L = ins m.given (posOf m.given g.owner) g := ⟨_, rfl⟩
  have hposl : posOf m.given g.owner ≤ m.given.length := List.findIdx_le_length
  have hLn : m.given.length + 1 = L.length := by rw [hL, ins_len g hposl]
  have hbs : bsE 7 (some [enc g]) = some (enc [g]) := bsE_one 7 g rfl
  simp only [hbs, bR, Nat.reduceEqDiff, reduceIte, Int.reduceBNe, Int.reduceBEq]
  refine .obj [(7, 16)] [enc m.given] (clonePost m.given) (F85 m.given (by omega)) Gvn.nil ⟨.inl ⟨(e_ren _ _).symm, e_only _ _, e_isVal _⟩, trivial⟩ ?_ ?_
  · rintro x os' (⟨_, h | h, rfl⟩ | ⟨_, k, rfl, rfl⟩)
    · subst h; exact Bck.nil (fun _ => rfl) (fun h => by cases h)
    · subst h; exact Bck.nil (fun _ => rfl) (fun h => by cases h)
    · exact Bck.new1 (fun p => map_only p _) (fun h => by cases h) rfl (fun h => by cases h) rfl (by decide)
  · rintro x os' (⟨hn, h, rfl⟩ | ⟨hn, k, rfl, rfl⟩)
    · have hren : x.ren (rnm [(7, 16)]) = x ∧ x.isVal = true ∧ ∀ q, x.only q = true := by rcases h with rfl | rfl <;> exact ⟨by simp only [AV.ren], rfl, fun _ => rfl⟩
      have hren2 : x.ren (rnm [(25, 20)]) = x := by rcases h with rfl | rfl <;> simp only [AV.ren]
      have hpos : posOf m.given g.owner = 0 := by rw [hn]; rfl
      rw [hren.1, hpos]
      simp only [renR, List.nil_append, bR, Nat.reduceEqDiff, reduceIte, Int.reduceBNe, Int.reduceBEq]
      refine .obj [(25, 20)] [x, enc (0 : Int), enc [g]] (insNil g) (F122n x h g) Gvn.nil ⟨.inl ⟨hren2.symm, hren.2.2 _, hren.2.1⟩, .inl ⟨rfl, rfl, rfl⟩, .inl ⟨(e_ren _ _).symm, e_only _ _, e_isVal _⟩, trivial⟩ ?_ ?_
      · rintro x os' ⟨k, rfl, rfl⟩
        exact Bck.new1 (fun p => map_only p _) (fun h => by cases h) rfl (fun h => by cases h) rfl (by decide)
      · rintro x os' ⟨k, rfl, rfl⟩
        have hLg : [g] = L := by rw [hL, hpos, hn]; rfl
        have hLl : 1 = L.length := by rw [← hLg]; rfl
        rw [hLg]
        simp only [rowG, renR, rens_map_enc, List.cons_append, List.nil_append, typR, bR, Nat.reduceEqDiff, reduceIte, Int.reduceBNe, Int.reduceBEq]
        rw [stR3_ok (s := none) (v := .view 20 [] 7 0 1) (old := enc m.given) rfl rfl (e_sh m.given).symm]
        have hset : (enc m : AV).setAt [2] (.view 20 [] 7 0 1) = .agg [enc m.wear, .int .i64 m.fls, .view 20 [] 7 0 1] := rfl
        rw [hset]
        obtain ⟨s1, s2, s3⟩ := bookL m.wear m.fls (.view 20 [] 7 0 1) rfl rfl rfl
        simp only [bR, Nat.reduceEqDiff, reduceIte, Int.reduceBNe, Int.reduceBEq]
        refine .done (hK _ ?_); clear hK K; simp only [thenQ, blockQ]
        refine AW.seq (AW.reg cd102_3 fun K hK => ?_)
        simp only [g102_3, bR, Nat.reduceEqDiff, reduceIte, Int.reduceBNe, Int.reduceBEq]
        simp only [s2, e_a5, bR, Nat.reduceEqDiff, reduceIte, Int.reduceBNe, Int.reduceBEq]
        rw [stR3_ok s1 s2 (s3.trans (bookL (a5 0 0 0 0 0) 0 (.nils 7) rfl rfl rfl).2.2.symm)]
        simp only [setAt_nil, bR, Nat.reduceEqDiff, reduceIte, Int.reduceBNe, Int.reduceBEq]
        refine .done (hK _ ?_); clear hK K; simp only [thenQ, blockQ]
        refine AW.ret ?_
        simp only [blockQ, thenQ, bR, Nat.reduceEqDiff, reduceIte, Int.reduceBNe, Int.reduceBEq]
        simp only [s2, finV_take (α := Given) (sz := 7) rfl, typR, e_fin, bR, Nat.reduceEqDiff, reduceIte, Int.reduceBNe, Int.reduceBEq]
        rw [e_M, ← hL, hLl, take_row]
    · have hLl := hLn
      simp only [rowG, renR, rens_map_enc, List.cons_append, List.nil_append, bR, Nat.reduceEqDiff, reduceIte, Int.reduceBNe, Int.reduceBEq]
      refine .objH false [(1000000, 16), (25, 20), (40, 21)] (rowG 1000000 m.given k) [.view 1000000 [] 7 0 m.given.length, enc (posOf m.given g.owner : Int), enc [g]] (insPost m.given (posOf m.given g.owner) g k) rfl (F122 m.given (posOf m.given g.owner) g k hposl hn (by omega)) ⟨?_, ?_⟩ ⟨.inl ⟨?_, ?_, rfl⟩, .inl ⟨rfl, rfl, rfl⟩, .inl ⟨(e_ren _ _).symm, e_only _ _, e_isVal _⟩, trivial⟩ ?_ ?_
      · intro n x h
        simp only [rowG, lookO] at h
        split at h
        · rename_i hn'
          subst hn'
          simp only [Option.some.injEq] at h
          subst h
          exact ⟨by simp only [renR, rens_map_enc, bR, Nat.reduceEqDiff, reduceIte, Int.reduceBNe, Int.reduceBEq], map_only _ _, rfl⟩
        · cases h
      · intro a b ha hb _
        rw [isIn_one.1 ha, isIn_one.1 hb]
      · simp only [renR, bR, Nat.reduceEqDiff, reduceIte, Int.reduceBNe, Int.reduceBEq]
      · exact isIn_one.2 rfl
      · rintro x os' (⟨q, rfl, rfl⟩ | ⟨d, q, rfl | rfl, rfl, rfl⟩)
        · exact Bck.oneR (fun p => map_only p _) (fun h => by cases h) rfl (fun h => by cases h)
        · exact Bck.two rfl rfl (by decide) (by decide) (fun p => map_only p _) (fun h => by cases h) (fun p => map_only p _) (fun h => by cases h) rfl (fun h => by cases h) rfl (by decide)
        · exact Bck.two rfl rfl (by decide) (by decide) (fun p => map_only p _) (fun h => by cases h) (fun p => map_only p _) (fun h => by cases h) rfl (fun h => by cases h) rfl (by decide)
      · rintro x os' (⟨q, rfl, rfl⟩ | ⟨d, q, rfl | rfl, rfl, rfl⟩)
        · rw [← hL]
          simp only [rowG, renR, rens_map_enc, List.cons_append, List.nil_append, typR, bR, Nat.reduceEqDiff, reduceIte, Int.reduceBNe, Int.reduceBEq]
          rw [stR3_ok (s := none) (v := .view 16 [] 7 0 (m.given.length + 1)) (old := enc m.given) rfl rfl (e_sh m.given).symm]
          have hset : (enc m : AV).setAt [2] (.view 16 [] 7 0 (m.given.length + 1)) = .agg [enc m.wear, .int .i64 m.fls, .view 16 [] 7 0 (m.given.length + 1)] := rfl
          rw [hset]
          obtain ⟨s1, s2, s3⟩ := bookL m.wear m.fls (.view 16 [] 7 0 (m.given.length + 1)) rfl rfl rfl
          simp only [bR, Nat.reduceEqDiff, reduceIte, Int.reduceBNe, Int.reduceBEq]
          refine .done (hK _ ?_); clear hK K; simp only [thenQ, blockQ]
          refine AW.seq (AW.reg cd102_3 fun K hK => ?_)
          simp only [g102_3, bR, Nat.reduceEqDiff, reduceIte, Int.reduceBNe, Int.reduceBEq]
          simp only [s2, e_a5, bR, Nat.reduceEqDiff, reduceIte, Int.reduceBNe, Int.reduceBEq]
          rw [stR3_ok s1 s2 (s3.trans (bookL (a5 0 0 0 0 0) 0 (.nils 7) rfl rfl rfl).2.2.symm)]
          simp only [setAt_nil, bR, Nat.reduceEqDiff, reduceIte, Int.reduceBNe, Int.reduceBEq]
          refine .done (hK _ ?_); clear hK K; simp only [thenQ, blockQ]
          refine AW.ret ?_
          simp only [blockQ, thenQ, bR, Nat.reduceEqDiff, reduceIte, Int.reduceBNe, Int.reduceBEq]
          simp only [s2, finV_take (α := Given) (sz := 7) rfl, typR, e_fin, bR, Nat.reduceEqDiff, reduceIte, Int.reduceBNe, Int.reduceBEq]
          rw [e_M, ← hL, hLl, take_row]
        · rw [← hL]
          simp only [rowG, renR, rens_map_enc, List.cons_append, List.nil_append, typR, bR, Nat.reduceEqDiff, reduceIte, Int.reduceBNe, Int.reduceBEq]
          rw [stR3_ok (s := none) (v := .view 20 [] 7 0 (m.given.length + 1)) (old := enc m.given) rfl rfl (e_sh m.given).symm]
          have hset : (enc m : AV).setAt [2] (.view 20 [] 7 0 (m.given.length + 1)) = .agg [enc m.wear, .int .i64 m.fls, .view 20 [] 7 0 (m.given.length + 1)] := rfl
          rw [hset]
          obtain ⟨s1, s2, s3⟩ := bookL m.wear m.fls (.view 20 [] 7 0 (m.given.length + 1)) rfl rfl rfl
          simp only [bR, Nat.reduceEqDiff, reduceIte, Int.reduceBNe, Int.reduceBEq]
          refine .done (hK _ ?_); clear hK K; simp only [thenQ, blockQ]
          refine AW.seq (AW.reg cd102_3 fun K hK => ?_)
          simp only [g102_3, bR, Nat.reduceEqDiff, reduceIte, Int.reduceBNe, Int.reduceBEq]
          simp only [s2, e_a5, bR, Nat.reduceEqDiff, reduceIte, Int.reduceBNe, Int.reduceBEq]
          rw [stR3_ok s1 s2 (s3.trans (bookL (a5 0 0 0 0 0) 0 (.nils 7) rfl rfl rfl).2.2.symm)]
          simp only [setAt_nil, bR, Nat.reduceEqDiff, reduceIte, Int.reduceBNe, Int.reduceBEq]
          refine .done (hK _ ?_); clear hK K; simp only [thenQ, blockQ]
          refine AW.ret ?_
          simp only [blockQ, thenQ, bR, Nat.reduceEqDiff, reduceIte, Int.reduceBNe, Int.reduceBEq]
          simp only [s2, finV_take (α := Given) (sz := 7) rfl, typR, e_fin, bR, Nat.reduceEqDiff, reduceIte, Int.reduceBNe, Int.reduceBEq]
          rw [e_M, ← hL, hLl, take_row]
        · rw [← hL]
          simp only [rowG, renR, rens_map_enc, List.cons_append, List.nil_append, typR, bR, Nat.reduceEqDiff, reduceIte, Int.reduceBNe, Int.reduceBEq]
          rw [stR3_ok (s := none) (v := .view 21 [] 7 0 (m.given.length + 1)) (old := enc m.given) rfl rfl (e_sh m.given).symm]
          have hset : (enc m : AV).setAt [2] (.view 21 [] 7 0 (m.given.length + 1)) = .agg [enc m.wear, .int .i64 m.fls, .view 21 [] 7 0 (m.given.length + 1)] := rfl
          rw [hset]
          obtain ⟨s1, s2, s3⟩ := bookL m.wear m.fls (.view 21 [] 7 0 (m.given.length + 1)) rfl rfl rfl
          simp only [bR, Nat.reduceEqDiff, reduceIte, Int.reduceBNe, Int.reduceBEq]
          refine .done (hK _ ?_); clear hK K; simp only [thenQ, blockQ]
          refine AW.seq (AW.reg cd102_3 fun K hK => ?_)
          simp only [g102_3, bR, Nat.reduceEqDiff, reduceIte, Int.reduceBNe, Int.reduceBEq]
          simp only [s2, e_a5, bR, Nat.reduceEqDiff, reduceIte, Int.reduceBNe, Int.reduceBEq]
          rw [stR3_ok s1 s2 (s3.trans (bookL (a5 0 0 0 0 0) 0 (.nils 7) rfl rfl rfl).2.2.symm)]
          simp only [setAt_nil, bR, Nat.reduceEqDiff, reduceIte, Int.reduceBNe, Int.reduceBEq]
          refine .done (hK _ ?_); clear hK K; simp only [thenQ, blockQ]
          refine AW.ret ?_
          simp only [blockQ, thenQ, bR, Nat.reduceEqDiff, reduceIte, Int.reduceBNe, Int.reduceBEq]
          simp only [s2, finV_take (α := Given) (sz := 7) rfl, typR, e_fin, bR, Nat.reduceEqDiff, reduceIte, Int.reduceBNe, Int.reduceBEq]
          rw [e_M, ← hL, hLl, take_row]
end Go.Proofs.Ytkjkbpgdpnapfaa

/-
  FUNCTIONS BY CONTRACT: Delete of slices, over given marks; Take of mark.
-/
namespace Go.Proofs.Ytkjkbpgdpnapfaa
open Go Go.Abs
open Go.Abs.Enc (enc)
def del (l : List Given) (i : Nat) : List Given := l.take i ++ l.drop (i + 1)
theorem del_len {l : List Given} {i : Nat} (h : i < l.length) : (del l i).length = l.length - 1 := by
  simp only [del, List.length_append, List.length_take, List.length_drop]; omega
def delAtPost (l : List Given) (i : Nat) : Post := fun r os' => ∃ q, r = .view 1000000 [] 7 0 (l.length - 1) ∧ os' = rowG 1000000 (del l i) q
theorem sliceV_top {n : Nat} {p : List Nat} {sz k total i j : Nat} (h : i ≤ j) (hj : j ≤ k) (hk : k ≤ total) : sliceV n p sz 0 k total (some (.int .i64 i)) (some (.int .i64 j)) (some (.int .i64 k)) = some .top := by
  simp only [sliceV, bound]
  rw [if_pos ⟨by omega, by omega, by omega, by omega⟩]
theorem sliceV_lh {n : Nat} {p : List Nat} {sz k total i j : Nat} (h : i ≤ j) (hk : j ≤ total) (h0 : i < total) : sliceV n p sz 0 k total (some (.int .i64 i)) (some (.int .i64 j)) none = some (.view n p sz i (j - i)) := by
  simp only [sliceV, bound]
  rw [if_pos ⟨by omega, by omega, by omega⟩, if_neg (by omega)]
  simp
theorem appR_viewS {α : Type} [Enc α] {A : AState} {rest : List G} {esz bytes : Nat} {d : Option Nat} {e : Nat} (z x : AV) {n l : Nat} {xs ys : List α} (hx : srcL A esz x = some (ys.map enc)) (hy : ys ≠ []) (ho : A.o n = some (.box (.agg (xs.map enc)))) (hr : l + ys.length ≤ xs.length) :
    appR A d e esz bytes z x rest (.view n [] esz 0 l) = aops rest ((A.setO n (.box (.agg ((xs.take l ++ (ys ++ xs.drop (l + ys.length))).map enc)))).putO d (.view n [] esz 0 (l + ys.length))) := by
  have h1 := srcL_view (A := A) (esz := esz) (lo := 0) (k := l) ho (by omega)
  have h2 : (AV.agg (xs.map (enc (α := α)))).at [] = some (.agg (xs.map enc)) := rfl
  have h3 : AV.shs (ys.map (enc (α := α))) = AV.shs (((xs.map (enc (α := α))).drop l).take ys.length) := by
    rw [← List.map_drop, ← List.map_take]
    exact shs_eq_len (by rw [List.length_take, List.length_drop]; omega)
  simp only [appR, h1, hx, appO]
  rw [if_neg (by simpa using hy)]
  simp only [ho, h2, List.length_map, Nat.zero_add]
  rw [if_pos hr, if_pos ⟨rfl, by rw [List.length_map, Nat.zero_add]; exact h3⟩]
  simp only [setSeg, setAt_nil, Nat.zero_add, List.length_map, List.map_append, List.map_take, List.map_drop]
theorem appR_viewE {α : Type} [Enc α] {A : AState} {rest : List G} {esz bytes : Nat} {d : Option Nat} {e : Nat} (z x : AV) {n l : Nat} {xs : List α} (hx : srcL A esz x = some []) (ho : A.o n = some (.box (.agg (xs.map enc)))) (hr : l ≤ xs.length) :
    appR A d e esz bytes z x rest (.view n [] esz 0 l) = aops rest (A.putO d (.view n [] esz 0 l)) := by
  have h1 := srcL_view (A := A) (esz := esz) (lo := 0) (k := l) ho (by omega)
  simp only [appR, h1, hx, appO, if_true]
theorem list_del (l : List Given) (i k : Nat) (h : i + 1 < l.length) (xs : List Given) (hx : xs = l ++ List.replicate k g0) (a : List Given) (ha : a = xs.take i ++ (l.drop (i + 1) ++ xs.drop (i + (l.drop (i + 1)).length))) :
    a.take (l.length - 1) ++ (List.replicate 1 g0 ++ a.drop (l.length - 1 + 1)) = del l i ++ List.replicate (k + 1) g0 := by
  have e1 : xs.take i = l.take i := by rw [hx, List.take_append_of_le_length (by omega)]
  have e0 : i + (l.drop (i + 1)).length = l.length - 1 := by rw [List.length_drop]; omega
  have e2 : a = del l i ++ xs.drop (l.length - 1) := by rw [ha, e1, e0, del, List.append_assoc]
  have hl := del_len (l := l) (i := i) (by omega)
  have e3 : a.take (l.length - 1) = del l i := by rw [e2, ← hl, List.take_left]
  have e4 : a.drop (l.length - 1 + 1) = List.replicate k g0 := by
    rw [e2, List.drop_append, hl, List.drop_eq_nil_of_le (by omega), List.nil_append, List.drop_drop]
    have : l.length - 1 + (l.length - 1 + 1 - (l.length - 1)) = l.length := by omega
    rw [this, hx, List.drop_left]
  rw [e3, e4, List.replicate_append_replicate, Nat.add_comm 1 k]
theorem list_del_end (l : List Given) (k : Nat) (i : Nat) (h : i + 1 = l.length) (xs : List Given) (hx : xs = l ++ List.replicate k g0) : xs.take (l.length - 1) ++ (List.replicate 1 g0 ++ xs.drop (l.length - 1 + 1)) = del l i ++ List.replicate (k + 1) g0 := by
  have e1 : l.length - 1 = i := by omega
  have e2 : xs.drop (l.length - 1 + 1) = List.replicate k g0 := by rw [show l.length - 1 + 1 = l.length by omega, hx, List.drop_left]
  have e3 : xs.take (l.length - 1) = del l i := by
    rw [e1, hx, List.take_append_of_le_length (by omega), del, List.drop_eq_nil_of_le (by omega), List.append_nil]
  rw [e2, e3, List.replicate_append_replicate, Nat.add_comm 1 k]
theorem F104 (l : List Given) (i : Nat) (k : Nat) (hi : i < l.length) (hlen : l.length ≤ 1000) :
    CtrO Try.prog 104 [.view 1000000 [] 7 0 l.length, enc (i : Int), enc ((i + 1 : Nat) : Int)] (rowG 1000000 l k) (delAtPost l i) := by
  refine CtrO.mk' Try.func104 ca104 cc104 cr104 (Nat.le_of_ble_eq_true rfl) (Nat.le_of_ble_eq_true rfl) (fun m hm => by rw [isIn_one.1 hm]; exact Nat.le_refl _) (fun hwf W0 D0 E1 => ?_)
  simp only [c104, r104, idx, Nat.zero_add, Nat.reduceAdd]
  simp only [rowG]
  obtain ⟨xs, hxs⟩ : ∃ xs, xs = l ++ List.replicate k g0 := ⟨_, rfl⟩
  have hxl : xs.length = l.length + k := by rw [hxs]; simp
  have htot : (xs.map (enc (α := Given))).length = l.length + k := by rw [List.length_map]; exact hxl
  rw [← hxs]
  have hA : ∀ ts, (mkA ts [(1000000, .box (.agg (xs.map (enc (α := Given)))))]).o 1000000 = some (.box (.agg (xs.map enc))) := fun _ => rfl
  refine AW.seq (AW.reg cd104_0 fun K hK => ?_)
  simp only [g104_0, bR, Nat.reduceEqDiff, reduceIte, Int.reduceBNe, Int.reduceBEq]
  refine .done (hK _ ?_); clear hK K; simp only [thenQ, blockQ]
  refine AW.seq (AW.reg cd104_1 fun K hK => ?_)
  simp only [g104_1, bR, Nat.reduceEqDiff, reduceIte, Int.reduceBNe, Int.reduceBEq]
  simp only [viewR, htot, Option.map_none, Option.map_some, e_int, sliceV_top (show i ≤ i + 1 by omega) (show i + 1 ≤ l.length by omega) (show l.length ≤ l.length + k by omega), bR, Nat.reduceEqDiff, reduceIte, Int.reduceBNe, Int.reduceBEq]
  refine .done (hK _ ?_); clear hK K; simp only [thenQ, blockQ]
  refine AW.seq (AW.seq ?_)
  refine AW.reg cd104_2 fun K hK => ?_
  simp only [g104_2, bR, Nat.reduceEqDiff, reduceIte, Int.reduceBNe, Int.reduceBEq]
  try simp only [typR, useR, okR, e_fin, bR, Nat.reduceEqDiff, reduceIte, Int.reduceBNe, Int.reduceBEq]
  refine .done (hK _ ?_); clear hK K; simp only [thenQ, blockQ]
  refine AW.ite ?_
  simp only [condQ, bR, Nat.reduceEqDiff, reduceIte, Int.reduceBNe, Int.reduceBEq]
  refine ⟨fun h => ?_, fun h => ?_⟩
  · exfalso
    have : (i : Int) = ((i + 1 : Nat) : Int) := by simpa using h
    omega
  refine AW.skip ?_; simp only [thenQ, blockQ, reduceIte, Nat.reduceEqDiff]
  refine AW.seq (AW.reg cd104_4 fun K hK => ?_)
  simp only [g104_4, bR, Nat.reduceEqDiff, reduceIte, Int.reduceBNe, Int.reduceBEq]
  simp only [viewR, bR, Nat.reduceEqDiff, reduceIte, Int.reduceBNe, Int.reduceBEq]
  refine .done (hK _ ?_); clear hK K; simp only [thenQ, blockQ]
  by_cases hl1 : i + 1 < l.length
  · have hd : (xs.drop (i + 1)).take (l.length - (i + 1)) = l.drop (i + 1) := by
      rw [hxs, List.drop_append_of_le_length (by omega), List.take_append_of_le_length (by rw [List.length_drop]; omega), List.take_of_length_le (by rw [List.length_drop]; omega)]
    have hdl : i + (l.drop (i + 1)).length = l.length - 1 := by rw [List.length_drop]; omega
    obtain ⟨b, hb⟩ : ∃ b, b = xs.take i ++ (l.drop (i + 1) ++ xs.drop (i + (l.drop (i + 1)).length)) := ⟨_, rfl⟩
    have hbl : b.length = l.length + k := by rw [hb]; simp; omega
    have hcont := list_del l i k hl1 xs hxs b hb
    refine AW.seq (AW.reg cd104_5 fun K hK => ?_)
    simp only [g104_5, bR, Nat.reduceEqDiff, reduceIte, Int.reduceBNe, Int.reduceBEq]
    simp only [viewR, htot, Option.map_none, Option.map_some, sliceV_hi (show i ≤ l.length + k by omega) (show 0 < l.length + k by omega), sliceV_lo (show i + 1 ≤ l.length by omega) (show l.length ≤ l.length + k by omega) (show i + 1 < l.length + k by omega), bR, Nat.reduceEqDiff, reduceIte, Int.reduceBNe, Int.reduceBEq]
    rw [appR_viewS (esz := 7) (xs := xs) (ys := l.drop (i + 1)) _ _ (by rw [srcL_view (xs := xs) (hA _) (by omega), hd]) (by simp; omega) (hA _) (by rw [List.length_drop]; omega)]
    rw [← hb, hdl]
    simp only [bR, Nat.reduceEqDiff, reduceIte, Int.reduceBNe, Int.reduceBEq]
    refine .done (hK _ ?_); clear hK K; simp only [thenQ, blockQ]
    have htb : (b.map (enc (α := Given))).length = l.length + k := by rw [List.length_map]; exact hbl
    have hB : ∀ ts os, (mkA ts ((1000000, .box (.agg (b.map (enc (α := Given))))) :: os)).o 1000000 = some (.box (.agg (b.map enc))) := fun _ _ => rfl
    refine AW.seq (AW.reg cd104_6 fun K hK => ?_)
    simp only [g104_6, bR, Nat.reduceEqDiff, reduceIte, Int.reduceBNe, Int.reduceBEq]
    simp only [viewR, htb, Option.map_none, Option.map_some, e_g0, bR, Nat.reduceEqDiff, reduceIte, Int.reduceBNe, Int.reduceBEq]
    rw [sliceV_lh (show l.length - 1 ≤ l.length by omega) (show l.length ≤ l.length + k by omega) (by omega)]
    simp only [viewR, bR, Nat.reduceEqDiff, reduceIte, Int.reduceBNe, Int.reduceBEq]
    rw [clrO_enc (xs := b) g0 (hB _ _) (by omega)]
    have hone : l.length - (l.length - 1) = 1 := by omega
    simp only [hone, hcont, bR, Nat.reduceEqDiff, reduceIte, Int.reduceBNe, Int.reduceBEq]
    refine .done (hK _ ?_); clear hK K; simp only [thenQ, blockQ]
    refine AW.seq (AW.reg cd104_7 fun K hK => ?_)
    simp only [g104_7, bR, Nat.reduceEqDiff, reduceIte, Int.reduceBNe, Int.reduceBEq]
    refine .done (hK _ ?_); clear hK K; simp only [thenQ, blockQ]
    refine AW.ret ?_
    simp only [blockQ, thenQ, retO_ret]
    exact ⟨rowG 1000000 (del l i) (k + 1), [.view 1000000 [] 7 0 (l.length - 1)], held1 rfl (fun p => map_only p _), ⟨⟨_, rfl, .inl ⟨rfl, rfl, rfl⟩⟩, trivial⟩, k + 1, rfl, rfl⟩
  · have hie : i + 1 = l.length := by omega
    obtain ⟨b, hb⟩ : ∃ b, b = xs := ⟨_, rfl⟩
    have hbl : b.length = l.length + k := by rw [hb]; exact hxl
    have hcont := list_del_end l k i hie xs hxs
    rw [← hb] at hcont
    have hi1 : i = l.length - 1 := by omega
    obtain ⟨y, hy⟩ := sliceV_any (n := 1000000) (p := []) (sz := 7) (show i + 1 ≤ l.length by omega) (show l.length ≤ l.length + k by omega)
    have hye : ∀ ts, srcL (mkA ts [(1000000, .box (.agg (xs.map (enc (α := Given)))))]) 7 y = some [] := fun ts => by
      by_cases hk : k = 0
      · have : sliceV 1000000 [] 7 0 l.length (l.length + k) (some (.int .i64 ((i + 1 : Nat) : Int))) none none = some (.c0 7) := by
          simp only [sliceV, bound]
          rw [if_pos ⟨by omega, by omega, by omega⟩, if_pos (by omega)]
        rw [this] at hy; cases hy; rfl
      · rw [sliceV_lo (show i + 1 ≤ l.length by omega) (show l.length ≤ l.length + k by omega) (by omega)] at hy
        cases hy
        rw [srcL_view (xs := xs) (hA _) (by omega), hie]
        simp
    refine AW.seq (AW.reg cd104_5 fun K hK => ?_)
    simp only [g104_5, bR, Nat.reduceEqDiff, reduceIte, Int.reduceBNe, Int.reduceBEq]
    simp only [viewR, htot, Option.map_none, Option.map_some, sliceV_hi (show i ≤ l.length + k by omega) (show 0 < l.length + k by omega), hy, bR, Nat.reduceEqDiff, reduceIte, Int.reduceBNe, Int.reduceBEq]
    rw [appR_viewE (esz := 7) (xs := xs) _ _ (hye _) (hA _) (by omega)]
    rw [hi1, ← hb]
    simp only [bR, Nat.reduceEqDiff, reduceIte, Int.reduceBNe, Int.reduceBEq]
    refine .done (hK _ ?_); clear hK K; simp only [thenQ, blockQ]
    have htb : (b.map (enc (α := Given))).length = l.length + k := by rw [List.length_map]; exact hbl
    have hB : ∀ ts os, (mkA ts ((1000000, .box (.agg (b.map (enc (α := Given))))) :: os)).o 1000000 = some (.box (.agg (b.map enc))) := fun _ _ => rfl
    refine AW.seq (AW.reg cd104_6 fun K hK => ?_)
    simp only [g104_6, bR, Nat.reduceEqDiff, reduceIte, Int.reduceBNe, Int.reduceBEq]
    simp only [viewR, htb, Option.map_none, Option.map_some, e_g0, bR, Nat.reduceEqDiff, reduceIte, Int.reduceBNe, Int.reduceBEq]
    rw [sliceV_lh (show l.length - 1 ≤ l.length by omega) (show l.length ≤ l.length + k by omega) (by omega)]
    simp only [viewR, bR, Nat.reduceEqDiff, reduceIte, Int.reduceBNe, Int.reduceBEq]
    rw [clrO_enc (xs := b) g0 (hB _ _) (by omega)]
    have hone : l.length - (l.length - 1) = 1 := by omega
    simp only [hone, hcont, bR, Nat.reduceEqDiff, reduceIte, Int.reduceBNe, Int.reduceBEq]
    refine .done (hK _ ?_); clear hK K; simp only [thenQ, blockQ]
    refine AW.seq (AW.reg cd104_7 fun K hK => ?_)
    simp only [g104_7, bR, Nat.reduceEqDiff, reduceIte, Int.reduceBNe, Int.reduceBEq]
    refine .done (hK _ ?_); clear hK K; simp only [thenQ, blockQ]
    refine AW.ret ?_
    simp only [blockQ, thenQ, retO_ret]
    exact ⟨rowG 1000000 (del l i) (k + 1), [.view 1000000 [] 7 0 (l.length - 1)], held1 rfl (fun p => map_only p _), ⟨⟨_, rfl, .inl ⟨rfl, rfl, rfl⟩⟩, trivial⟩, k + 1, rfl, rfl⟩
end Go.Proofs.Ytkjkbpgdpnapfaa

/-
  FUNCTIONS OF mark BY CONTRACT: Give, Add, Take.
-/
namespace Go.Proofs.Ytkjkbpgdpnapfaa
open Go Go.Abs
open Go.Abs.Enc (enc)
/-- No book. -/
def noM : Marks := ⟨a5 0 0 0 0 0, 0, []⟩
def withM (m : Marks) (g : Given) : Marks := ⟨m.wear, m.fls, ins m.given (posOf m.given g.owner) g⟩
def giveR (m : Marks) (o : Int) : Marks × Int := if askedOf m o ≠ 0 then (noM, askedOf m o) else if foundAt m.given o then (noM, 15) else if (nextOf m).2 ≠ 0 then (noM, (nextOf m).2) else (withM m ⟨o, (nextOf m).1⟩, 0)
def addR (m : Marks) (g : Given) : Marks × Int := if askedOf m g.owner ≠ 0 then (noM, askedOf m g.owner) else if foundAt m.given g.owner then (noM, 15) else if okMark g.mark = false then (noM, 10) else if m.given.length = 40 then (noM, 16) else if blocked m g.mark then (noM, 19) else (withM m g, 0)
def takeR (m : Marks) (o : Int) : Marks × Int := if askedOf m o ≠ 0 then (noM, askedOf m o) else if foundAt m.given o then (⟨m.wear, m.fls, del m.given (posOf m.given o)⟩, 0) else (noM, 3)
theorem asked0 {m : Marks} {o : Int} (h : askedOf m o = 0) : okM m = true ∧ 1 ≤ o ∧ o ≤ 99 := by
  cases hm : okM m with
  | false => simp [askedOf, hm] at h
  | true =>
    cases ho : inR 1 99 o with
    | false => simp [askedOf, hm, ho] at h
    | true =>
      simp only [inR, Bool.and_eq_true, decide_eq_true_eq] at ho
      exact ⟨rfl, ho⟩
theorem F57 (m : Marks) (o : Int) : Ctr Try.prog 57 [enc m, enc o] (.tuple [enc (giveR m o).1, enc (giveR m o).2]) := by
  refine Ctr.mk' Try.func57 ca57 cc57 cr57 (Nat.le_of_ble_eq_true rfl) (fun hwf W0 D0 E1 => ?_)
  simp only [c57, r57, idx, Nat.zero_add, Nat.reduceAdd]
  obtain ⟨z1, z2, z3⟩ := bookL (a5 0 0 0 0 0) 0 (.nils 7) rfl rfl rfl
  refine AW.seq (AW.reg cd57_0 fun K hK => ?_)
  simp only [g57_0, bR, Nat.reduceEqDiff, reduceIte, Int.reduceBNe, Int.reduceBEq]
  simp only [e_isVal, e_a5, bR, Nat.reduceEqDiff, reduceIte, Int.reduceBNe, Int.reduceBEq]
  refine .done (hK _ ?_); clear hK K; simp only [thenQ, blockQ]
  refine AW.seq ?_
  refine AW.seq (AW.reg cd57_1 fun K hK => ?_)
  simp only [g57_1, bR, Nat.reduceEqDiff, reduceIte, Int.reduceBNe, Int.reduceBEq]
  try simp only [typR, useR, okR, e_fin, bR, Nat.reduceEqDiff, reduceIte, Int.reduceBNe, Int.reduceBEq]
  refine .flat _ (F90 m o) rfl ?_
  try simp only [typR, useR, okR, e_fin, bR, Nat.reduceEqDiff, reduceIte, Int.reduceBNe, Int.reduceBEq]
  refine .done (hK _ ?_); clear hK K; simp only [thenQ, blockQ]
  by_cases h0 : askedOf m o = 0
  case neg =>
    have hne : (askedOf m o != 0) = true := by simpa using h0
    refine AW.seq (AW.reg cd57_2 fun K hK => ?_)
    simp only [g57_2, bR, Nat.reduceEqDiff, reduceIte, Int.reduceBNe, Int.reduceBEq]
    simp only [hne, bR, Nat.reduceEqDiff, reduceIte, Int.reduceBNe, Int.reduceBEq]
    refine .done (hK _ ?_); clear hK K; simp only [thenQ, blockQ]
    refine AW.ite ?_
    simp only [condQ, bR, Nat.reduceEqDiff, reduceIte, Int.reduceBNe, Int.reduceBEq]
    refine ⟨fun h => ?_, fun h => ?_⟩
    · refine AW.seq (AW.reg cd57_3 fun K hK => ?_)
      simp only [g57_3, bR, Nat.reduceEqDiff, reduceIte, Int.reduceBNe, Int.reduceBEq]
      simp only [setParts, e_a5, bR, Nat.reduceEqDiff, reduceIte, Int.reduceBNe, Int.reduceBEq]
      rw [stR3_ok z1 z2 rfl]
      simp only [setAt_nil, bR, Nat.reduceEqDiff, reduceIte, Int.reduceBNe, Int.reduceBEq]
      refine .done (hK _ ?_); clear hK K; simp only [thenQ, blockQ]
      have hr : giveR m o = (noM, askedOf m o) := by simp [giveR, h0]
      refine AW.ret ?_
      simp only [blockQ, thenQ, bR, Nat.reduceEqDiff, reduceIte, Int.reduceBNe, Int.reduceBEq]
      simp only [z2, typR, e_fin, bR, Nat.reduceEqDiff, reduceIte, Int.reduceBNe, Int.reduceBEq]
      rw [hr]; rfl
    · cases h
  obtain ⟨hm, ho⟩ := asked0 h0
  have hlen := okM_len hm
  rw [h0]
  refine AW.seq (AW.reg cd57_2 fun K hK => ?_)
  simp only [g57_2, bR, Nat.reduceEqDiff, reduceIte, Int.reduceBNe, Int.reduceBEq]
  refine .done (hK _ ?_); clear hK K; simp only [thenQ, blockQ]
  refine AW.ite ?_
  simp only [condQ, bR, Nat.reduceEqDiff, reduceIte, Int.reduceBNe, Int.reduceBEq]
  refine ⟨fun h => ?_, fun h => ?_⟩
  · cases h
  refine AW.skip ?_; simp only [thenQ, blockQ, reduceIte, Nat.reduceEqDiff]
  refine AW.seq ?_
  refine AW.seq (AW.reg cd57_4 fun K hK => ?_)
  simp only [g57_4, bR, Nat.reduceEqDiff, reduceIte, Int.reduceBNe, Int.reduceBEq]
  try simp only [typR, useR, okR, e_fin, bR, Nat.reduceEqDiff, reduceIte, Int.reduceBNe, Int.reduceBEq]
  refine .lead _ (F91 m o hm ho) ?_
  try simp only [typR, useR, okR, e_fin, bR, Nat.reduceEqDiff, reduceIte, Int.reduceBNe, Int.reduceBEq]
  refine .done (hK _ ?_); clear hK K; simp only [thenQ, blockQ]
  generalize hf : foundAt m.given o = bf
  cases bf
  case true =>
    refine AW.seq (AW.reg cd57_5 fun K hK => ?_)
    simp only [g57_5, bR, Nat.reduceEqDiff, reduceIte, Int.reduceBNe, Int.reduceBEq]
    refine .done (hK _ ?_); clear hK K; simp only [thenQ, blockQ]
    refine AW.ite ?_
    simp only [condQ, bR, Nat.reduceEqDiff, reduceIte, Int.reduceBNe, Int.reduceBEq]
    refine ⟨fun h => ?_, fun h => ?_⟩
    · refine AW.seq (AW.reg cd57_6 fun K hK => ?_)
      simp only [g57_6, bR, Nat.reduceEqDiff, reduceIte, Int.reduceBNe, Int.reduceBEq]
      simp only [setParts, e_a5, bR, Nat.reduceEqDiff, reduceIte, Int.reduceBNe, Int.reduceBEq]
      rw [stR3_ok z1 z2 rfl]
      simp only [setAt_nil, bR, Nat.reduceEqDiff, reduceIte, Int.reduceBNe, Int.reduceBEq]
      refine .done (hK _ ?_); clear hK K; simp only [thenQ, blockQ]
      have hr : giveR m o = (noM, 15) := by simp [giveR, h0, hf]
      refine AW.ret ?_
      simp only [blockQ, thenQ, bR, Nat.reduceEqDiff, reduceIte, Int.reduceBNe, Int.reduceBEq]
      simp only [z2, typR, e_fin, bR, Nat.reduceEqDiff, reduceIte, Int.reduceBNe, Int.reduceBEq]
      rw [hr]; rfl
    · cases h
  refine AW.seq (AW.reg cd57_5 fun K hK => ?_)
  simp only [g57_5, bR, Nat.reduceEqDiff, reduceIte, Int.reduceBNe, Int.reduceBEq]
  refine .done (hK _ ?_); clear hK K; simp only [thenQ, blockQ]
  refine AW.ite ?_
  simp only [condQ, bR, Nat.reduceEqDiff, reduceIte, Int.reduceBNe, Int.reduceBEq]
  refine ⟨fun h => ?_, fun h => ?_⟩
  · cases h
  refine AW.skip ?_; simp only [thenQ, blockQ, reduceIte, Nat.reduceEqDiff]
  refine AW.seq (AW.reg cd57_7 fun K hK => ?_)
  simp only [g57_7, bR, Nat.reduceEqDiff, reduceIte, Int.reduceBNe, Int.reduceBEq]
  try simp only [typR, useR, okR, e_fin, bR, Nat.reduceEqDiff, reduceIte, Int.reduceBNe, Int.reduceBEq]
  refine .lead _ (F55 m) ?_
  simp only [typR, e_a6, stR3_6, bR, Nat.reduceEqDiff, reduceIte, Int.reduceBNe, Int.reduceBEq]
  refine .done (hK _ ?_); clear hK K; simp only [thenQ, blockQ]
  refine AW.seq (AW.seq ?_)
  by_cases hn : (nextOf m).2 = 0
  case neg =>
    have hne : ((nextOf m).2 != 0) = true := by simpa using hn
    refine AW.reg cd57_8 fun K hK => ?_
    simp only [g57_8, bR, Nat.reduceEqDiff, reduceIte, Int.reduceBNe, Int.reduceBEq]
    simp only [hne, bR, Nat.reduceEqDiff, reduceIte, Int.reduceBNe, Int.reduceBEq]
    refine .done (hK _ ?_); clear hK K; simp only [thenQ, blockQ]
    refine AW.ite ?_
    simp only [condQ, bR, Nat.reduceEqDiff, reduceIte, Int.reduceBNe, Int.reduceBEq]
    refine ⟨fun h => ?_, fun h => ?_⟩
    · refine AW.seq (AW.reg cd57_9 fun K hK => ?_)
      simp only [g57_9, bR, Nat.reduceEqDiff, reduceIte, Int.reduceBNe, Int.reduceBEq]
      simp only [setParts, e_a5, bR, Nat.reduceEqDiff, reduceIte, Int.reduceBNe, Int.reduceBEq]
      rw [stR3_ok z1 z2 rfl]
      simp only [setAt_nil, bR, Nat.reduceEqDiff, reduceIte, Int.reduceBNe, Int.reduceBEq]
      refine .done (hK _ ?_); clear hK K; simp only [thenQ, blockQ]
      have hr : giveR m o = (noM, (nextOf m).2) := by simp [giveR, h0, hf, hn]
      refine AW.ret ?_
      simp only [blockQ, thenQ, bR, Nat.reduceEqDiff, reduceIte, Int.reduceBNe, Int.reduceBEq]
      simp only [z2, typR, e_fin, bR, Nat.reduceEqDiff, reduceIte, Int.reduceBNe, Int.reduceBEq]
      rw [hr]; rfl
    · cases h
  rw [hn]
  refine AW.reg cd57_8 fun K hK => ?_
  simp only [g57_8, bR, Nat.reduceEqDiff, reduceIte, Int.reduceBNe, Int.reduceBEq]
  refine .done (hK _ ?_); clear hK K; simp only [thenQ, blockQ]
  refine AW.ite ?_
  simp only [condQ, bR, Nat.reduceEqDiff, reduceIte, Int.reduceBNe, Int.reduceBEq]
  refine ⟨fun h => ?_, fun h => ?_⟩
  · cases h
  refine AW.skip ?_; simp only [thenQ, blockQ, reduceIte, Nat.reduceEqDiff]
  refine AW.seq (AW.reg cd57_10 fun K hK => ?_)
  simp only [g57_10, bR, Nat.reduceEqDiff, reduceIte, Int.reduceBNe, Int.reduceBEq]
  simp only [typR, useR, okR, e_fin, e_a6, bldG, e_G, bR, Nat.reduceEqDiff, reduceIte, Int.reduceBNe, Int.reduceBEq]
  refine .lead _ (F102 m ⟨o, (nextOf m).1⟩ hm ho) ?_
  simp only [bR, Nat.reduceEqDiff, reduceIte, Int.reduceBNe, Int.reduceBEq]
  rw [stR3_ok (e_isVal _) (by rw [e_okS]; rfl) ((e_sh _).trans z3.symm)]
  simp only [setAt_nil, bR, Nat.reduceEqDiff, reduceIte, Int.reduceBNe, Int.reduceBEq]
  refine .done (hK _ ?_); clear hK K; simp only [thenQ, blockQ]
  have hr : giveR m o = (withM m ⟨o, (nextOf m).1⟩, 0) := by simp [giveR, h0, hf, hn]
  refine AW.ret ?_
  simp only [blockQ, thenQ, bR, Nat.reduceEqDiff, reduceIte, Int.reduceBNe, Int.reduceBEq]
  simp only [typR, e_fin, bR, Nat.reduceEqDiff, reduceIte, Int.reduceBNe, Int.reduceBEq]
  rw [hr]; rfl
theorem F59 (m : Marks) (g : Given) : Ctr Try.prog 59 [enc m, enc g] (.tuple [enc (addR m g).1, enc (addR m g).2]) := by
  refine Ctr.mk' Try.func59 ca59 cc59 cr59 (Nat.le_of_ble_eq_true rfl) (fun hwf W0 D0 E1 => ?_)
  simp only [c59, r59, idx, Nat.zero_add, Nat.reduceAdd]
  obtain ⟨z1, z2, z3⟩ := bookL (a5 0 0 0 0 0) 0 (.nils 7) rfl rfl rfl
  refine AW.seq (AW.reg cd59_0 fun K hK => ?_)
  simp only [g59_0, bR, Nat.reduceEqDiff, reduceIte, Int.reduceBNe, Int.reduceBEq]
  simp only [e_isVal, e_a5, bR, Nat.reduceEqDiff, reduceIte, Int.reduceBNe, Int.reduceBEq]
  refine .done (hK _ ?_); clear hK K; simp only [thenQ, blockQ]
  refine AW.seq ?_
  refine AW.seq (AW.reg cd59_1 fun K hK => ?_)
  simp only [g59_1, bR, Nat.reduceEqDiff, reduceIte, Int.reduceBNe, Int.reduceBEq]
  try simp only [typR, useR, okR, e_fin, bR, Nat.reduceEqDiff, reduceIte, Int.reduceBNe, Int.reduceBEq]
  refine .flat _ (F90 m g.owner) rfl ?_
  try simp only [typR, useR, okR, e_fin, bR, Nat.reduceEqDiff, reduceIte, Int.reduceBNe, Int.reduceBEq]
  refine .done (hK _ ?_); clear hK K; simp only [thenQ, blockQ]
  by_cases h0 : askedOf m g.owner = 0
  case neg =>
    have hne : (askedOf m g.owner != 0) = true := by simpa using h0
    refine AW.seq (AW.reg cd59_2 fun K hK => ?_)
    simp only [g59_2, bR, Nat.reduceEqDiff, reduceIte, Int.reduceBNe, Int.reduceBEq]
    simp only [hne, bR, Nat.reduceEqDiff, reduceIte, Int.reduceBNe, Int.reduceBEq]
    refine .done (hK _ ?_); clear hK K; simp only [thenQ, blockQ]
    refine AW.ite ?_
    simp only [condQ, bR, Nat.reduceEqDiff, reduceIte, Int.reduceBNe, Int.reduceBEq]
    refine ⟨fun h => ?_, fun h => ?_⟩
    · refine AW.seq (AW.reg cd59_3 fun K hK => ?_)
      simp only [g59_3, bR, Nat.reduceEqDiff, reduceIte, Int.reduceBNe, Int.reduceBEq]
      simp only [setParts, e_a5, bR, Nat.reduceEqDiff, reduceIte, Int.reduceBNe, Int.reduceBEq]
      rw [stR3_ok z1 z2 rfl]
      simp only [setAt_nil, bR, Nat.reduceEqDiff, reduceIte, Int.reduceBNe, Int.reduceBEq]
      refine .done (hK _ ?_); clear hK K; simp only [thenQ, blockQ]
      have hr : addR m g = (noM, askedOf m g.owner) := by simp [addR, h0]
      refine AW.ret ?_
      simp only [blockQ, thenQ, bR, Nat.reduceEqDiff, reduceIte, Int.reduceBNe, Int.reduceBEq]
      simp only [z2, typR, e_fin, bR, Nat.reduceEqDiff, reduceIte, Int.reduceBNe, Int.reduceBEq]
      rw [hr]; rfl
    · cases h
  obtain ⟨hm, ho⟩ := asked0 h0
  have hlen := okM_len hm
  rw [h0]
  refine AW.seq (AW.reg cd59_2 fun K hK => ?_)
  simp only [g59_2, bR, Nat.reduceEqDiff, reduceIte, Int.reduceBNe, Int.reduceBEq]
  refine .done (hK _ ?_); clear hK K; simp only [thenQ, blockQ]
  refine AW.ite ?_
  simp only [condQ, bR, Nat.reduceEqDiff, reduceIte, Int.reduceBNe, Int.reduceBEq]
  refine ⟨fun h => ?_, fun h => ?_⟩
  · cases h
  refine AW.skip ?_; simp only [thenQ, blockQ, reduceIte, Nat.reduceEqDiff]
  refine AW.seq (AW.reg cd59_4 fun K hK => ?_)
  simp only [g59_4, bR, Nat.reduceEqDiff, reduceIte, Int.reduceBNe, Int.reduceBEq]
  try simp only [typR, useR, okR, e_fin, bR, Nat.reduceEqDiff, reduceIte, Int.reduceBNe, Int.reduceBEq]
  refine .lead _ (F91 m g.owner hm ho) ?_
  try simp only [typR, useR, okR, e_fin, bR, Nat.reduceEqDiff, reduceIte, Int.reduceBNe, Int.reduceBEq]
  refine .done (hK _ ?_); clear hK K; simp only [thenQ, blockQ]
  generalize hf : foundAt m.given g.owner = bf
  refine AW.seq (AW.block ?_)
  cases bf
  case true =>
    refine AW.seq (AW.reg cd59_5 fun K hK => ?_)
    simp only [g59_5, bR, Nat.reduceEqDiff, reduceIte, Int.reduceBNe, Int.reduceBEq]
    refine .done (hK _ ?_); clear hK K; simp only [thenQ, blockQ]
    refine AW.ite ?_
    simp only [condQ, bR, Nat.reduceEqDiff, reduceIte, Int.reduceBNe, Int.reduceBEq]
    refine ⟨fun h => ?_, fun h => ?_⟩
    · refine AW.seq (AW.reg cd59_6 fun K hK => ?_)
      simp only [g59_6, bR, Nat.reduceEqDiff, reduceIte, Int.reduceBNe, Int.reduceBEq]
      simp only [setParts, e_a5, bR, Nat.reduceEqDiff, reduceIte, Int.reduceBNe, Int.reduceBEq]
      rw [stR3_ok z1 z2 rfl]
      simp only [setAt_nil, bR, Nat.reduceEqDiff, reduceIte, Int.reduceBNe, Int.reduceBEq]
      refine .done (hK _ ?_); clear hK K; simp only [thenQ, blockQ]
      have hr : addR m g = (noM, 15) := by simp [addR, h0, hf]
      refine AW.ret ?_
      simp only [blockQ, thenQ, bR, Nat.reduceEqDiff, reduceIte, Int.reduceBNe, Int.reduceBEq]
      simp only [z2, typR, e_fin, bR, Nat.reduceEqDiff, reduceIte, Int.reduceBNe, Int.reduceBEq]
      rw [hr]; rfl
    · cases h
  refine AW.seq (AW.reg cd59_5 fun K hK => ?_)
  simp only [g59_5, bR, Nat.reduceEqDiff, reduceIte, Int.reduceBNe, Int.reduceBEq]
  refine .done (hK _ ?_); clear hK K; simp only [thenQ, blockQ]
  refine AW.ite ?_
  simp only [condQ, bR, Nat.reduceEqDiff, reduceIte, Int.reduceBNe, Int.reduceBEq]
  refine ⟨fun h => ?_, fun h => ?_⟩
  · cases h
  refine AW.seq (AW.reg cd59_7 fun K hK => ?_)
  simp only [g59_7, bR, Nat.reduceEqDiff, reduceIte, Int.reduceBNe, Int.reduceBEq]
  simp only [typR, useR, okR, e_fin, bR, Nat.reduceEqDiff, reduceIte, Int.reduceBNe, Int.reduceBEq]
  refine .flat _ (F93 g.mark) rfl ?_
  generalize hk : okMark g.mark = bk
  cases bk
  case false =>
    try simp only [typR, useR, okR, e_fin, bR, Nat.reduceEqDiff, reduceIte, Int.reduceBNe, Int.reduceBEq]
    refine .done (hK _ ?_); clear hK K; simp only [thenQ, blockQ]
    refine AW.ite ?_
    simp only [condQ, bR, Nat.reduceEqDiff, reduceIte, Int.reduceBNe, Int.reduceBEq]
    refine ⟨fun h => ?_, fun h => ?_⟩
    · refine AW.seq (AW.reg cd59_8 fun K hK => ?_)
      simp only [g59_8, bR, Nat.reduceEqDiff, reduceIte, Int.reduceBNe, Int.reduceBEq]
      simp only [setParts, e_a5, bR, Nat.reduceEqDiff, reduceIte, Int.reduceBNe, Int.reduceBEq]
      rw [stR3_ok z1 z2 rfl]
      simp only [setAt_nil, bR, Nat.reduceEqDiff, reduceIte, Int.reduceBNe, Int.reduceBEq]
      refine .done (hK _ ?_); clear hK K; simp only [thenQ, blockQ]
      have hr : addR m g = (noM, 10) := by simp [addR, h0, hf, hk]
      refine AW.ret ?_
      simp only [blockQ, thenQ, bR, Nat.reduceEqDiff, reduceIte, Int.reduceBNe, Int.reduceBEq]
      simp only [z2, typR, e_fin, bR, Nat.reduceEqDiff, reduceIte, Int.reduceBNe, Int.reduceBEq]
      rw [hr]; rfl
    · cases h
  try simp only [typR, useR, okR, e_fin, bR, Nat.reduceEqDiff, reduceIte, Int.reduceBNe, Int.reduceBEq]
  refine .done (hK _ ?_); clear hK K; simp only [thenQ, blockQ]
  refine AW.ite ?_
  simp only [condQ, bR, Nat.reduceEqDiff, reduceIte, Int.reduceBNe, Int.reduceBEq]
  refine ⟨fun h => ?_, fun h => ?_⟩
  · cases h
  refine AW.seq (AW.reg cd59_9 fun K hK => ?_)
  simp only [g59_9, bR, Nat.reduceEqDiff, reduceIte, Int.reduceBNe, Int.reduceBEq]
  try simp only [typR, useR, okR, e_fin, bR, Nat.reduceEqDiff, reduceIte, Int.reduceBNe, Int.reduceBEq]
  refine .done (hK _ ?_); clear hK K; simp only [thenQ, blockQ]
  by_cases h40 : m.given.length = 40
  case pos =>
    refine AW.ite ?_
    simp only [condQ, bR, Nat.reduceEqDiff, reduceIte, Int.reduceBNe, Int.reduceBEq]
    refine ⟨fun h => ?_, fun h => ?_⟩
    · refine AW.seq (AW.reg cd59_10 fun K hK => ?_)
      simp only [g59_10, bR, Nat.reduceEqDiff, reduceIte, Int.reduceBNe, Int.reduceBEq]
      simp only [setParts, e_a5, bR, Nat.reduceEqDiff, reduceIte, Int.reduceBNe, Int.reduceBEq]
      rw [stR3_ok z1 z2 rfl]
      simp only [setAt_nil, bR, Nat.reduceEqDiff, reduceIte, Int.reduceBNe, Int.reduceBEq]
      refine .done (hK _ ?_); clear hK K; simp only [thenQ, blockQ]
      have hr : addR m g = (noM, 16) := by simp [addR, h0, hf, hk, h40]
      refine AW.ret ?_
      simp only [blockQ, thenQ, bR, Nat.reduceEqDiff, reduceIte, Int.reduceBNe, Int.reduceBEq]
      simp only [z2, typR, e_fin, bR, Nat.reduceEqDiff, reduceIte, Int.reduceBNe, Int.reduceBEq]
      rw [hr]; rfl
    · simp at h; omega
  refine AW.ite ?_
  simp only [condQ, bR, Nat.reduceEqDiff, reduceIte, Int.reduceBNe, Int.reduceBEq]
  refine ⟨fun h => ?_, fun h => ?_⟩
  · simp at h; omega
  refine AW.seq (AW.reg cd59_11 fun K hK => ?_)
  simp only [g59_11, bR, Nat.reduceEqDiff, reduceIte, Int.reduceBNe, Int.reduceBEq]
  simp only [typR, useR, okR, e_fin, bR, Nat.reduceEqDiff, reduceIte, Int.reduceBNe, Int.reduceBEq]
  refine .flat _ (F98 m m.given g.mark (okM_mark hm) hk) rfl ?_
  have hbl : (m.given.any fun h => tooNear m h.mark g.mark) = blocked m g.mark := rfl
  rw [hbl]
  generalize hb : blocked m g.mark = bb
  cases bb
  case true =>
    try simp only [typR, useR, okR, e_fin, bR, Nat.reduceEqDiff, reduceIte, Int.reduceBNe, Int.reduceBEq]
    refine .done (hK _ ?_); clear hK K; simp only [thenQ, blockQ]
    refine AW.ite ?_
    simp only [condQ, bR, Nat.reduceEqDiff, reduceIte, Int.reduceBNe, Int.reduceBEq]
    refine ⟨fun h => ?_, fun h => ?_⟩
    · refine AW.seq (AW.reg cd59_12 fun K hK => ?_)
      simp only [g59_12, bR, Nat.reduceEqDiff, reduceIte, Int.reduceBNe, Int.reduceBEq]
      simp only [setParts, e_a5, bR, Nat.reduceEqDiff, reduceIte, Int.reduceBNe, Int.reduceBEq]
      rw [stR3_ok z1 z2 rfl]
      simp only [setAt_nil, bR, Nat.reduceEqDiff, reduceIte, Int.reduceBNe, Int.reduceBEq]
      refine .done (hK _ ?_); clear hK K; simp only [thenQ, blockQ]
      have hr : addR m g = (noM, 19) := by simp [addR, h0, hf, hk, h40, hb]
      refine AW.ret ?_
      simp only [blockQ, thenQ, bR, Nat.reduceEqDiff, reduceIte, Int.reduceBNe, Int.reduceBEq]
      simp only [z2, typR, e_fin, bR, Nat.reduceEqDiff, reduceIte, Int.reduceBNe, Int.reduceBEq]
      rw [hr]; rfl
    · cases h
  try simp only [typR, useR, okR, e_fin, bR, Nat.reduceEqDiff, reduceIte, Int.reduceBNe, Int.reduceBEq]
  refine .done (hK _ ?_); clear hK K; simp only [thenQ, blockQ]
  refine AW.ite ?_
  simp only [condQ, bR, Nat.reduceEqDiff, reduceIte, Int.reduceBNe, Int.reduceBEq]
  refine ⟨fun h => ?_, fun h => ?_⟩
  · cases h
  refine AW.skip ?_; simp only [thenQ, blockQ, reduceIte, Nat.reduceEqDiff]
  refine AW.seq (AW.reg cd59_13 fun K hK => ?_)
  simp only [g59_13, bR, Nat.reduceEqDiff, reduceIte, Int.reduceBNe, Int.reduceBEq]
  simp only [typR, useR, okR, e_fin, bR, Nat.reduceEqDiff, reduceIte, Int.reduceBNe, Int.reduceBEq]
  refine .lead _ (F102 m g hm ho) ?_
  simp only [bR, Nat.reduceEqDiff, reduceIte, Int.reduceBNe, Int.reduceBEq]
  rw [stR3_ok (e_isVal _) (by rw [e_okS]; rfl) ((e_sh _).trans z3.symm)]
  simp only [setAt_nil, bR, Nat.reduceEqDiff, reduceIte, Int.reduceBNe, Int.reduceBEq]
  refine .done (hK _ ?_); clear hK K; simp only [thenQ, blockQ]
  have hr : addR m g = (withM m g, 0) := by simp [addR, h0, hf, hk, h40, hb]
  refine AW.ret ?_
  simp only [blockQ, thenQ, bR, Nat.reduceEqDiff, reduceIte, Int.reduceBNe, Int.reduceBEq]
  simp only [typR, e_fin, bR, Nat.reduceEqDiff, reduceIte, Int.reduceBNe, Int.reduceBEq]
  rw [hr]; rfl
theorem F61 (m : Marks) (o : Int) : Ctr Try.prog 61 [enc m, enc o] (.tuple [enc (takeR m o).1, enc (takeR m o).2]) := by
  refine Ctr.mk' Try.func61 ca61 cc61 cr61 (Nat.le_of_ble_eq_true rfl) (fun hwf W0 D0 E1 => ?_)
  simp only [c61, r61, idx, Nat.zero_add, Nat.reduceAdd]
  obtain ⟨z1, z2, z3⟩ := bookL (a5 0 0 0 0 0) 0 (.nils 7) rfl rfl rfl
  refine AW.seq (AW.reg cd61_0 fun K hK => ?_)
  simp only [g61_0, bR, Nat.reduceEqDiff, reduceIte, Int.reduceBNe, Int.reduceBEq]
  simp only [e_isVal, e_a5, bR, Nat.reduceEqDiff, reduceIte, Int.reduceBNe, Int.reduceBEq]
  refine .done (hK _ ?_); clear hK K; simp only [thenQ, blockQ]
  refine AW.seq ?_
  refine AW.seq (AW.reg cd61_1 fun K hK => ?_)
  simp only [g61_1, bR, Nat.reduceEqDiff, reduceIte, Int.reduceBNe, Int.reduceBEq]
  try simp only [typR, useR, okR, e_fin, bR, Nat.reduceEqDiff, reduceIte, Int.reduceBNe, Int.reduceBEq]
  refine .flat _ (F90 m o) rfl ?_
  try simp only [typR, useR, okR, e_fin, bR, Nat.reduceEqDiff, reduceIte, Int.reduceBNe, Int.reduceBEq]
  refine .done (hK _ ?_); clear hK K; simp only [thenQ, blockQ]
  by_cases h0 : askedOf m o = 0
  case neg =>
    have hne : (askedOf m o != 0) = true := by simpa using h0
    refine AW.seq (AW.reg cd61_2 fun K hK => ?_)
    simp only [g61_2, bR, Nat.reduceEqDiff, reduceIte, Int.reduceBNe, Int.reduceBEq]
    simp only [hne, bR, Nat.reduceEqDiff, reduceIte, Int.reduceBNe, Int.reduceBEq]
    refine .done (hK _ ?_); clear hK K; simp only [thenQ, blockQ]
    refine AW.ite ?_
    simp only [condQ, bR, Nat.reduceEqDiff, reduceIte, Int.reduceBNe, Int.reduceBEq]
    refine ⟨fun h => ?_, fun h => ?_⟩
    · refine AW.seq (AW.reg cd61_3 fun K hK => ?_)
      simp only [g61_3, bR, Nat.reduceEqDiff, reduceIte, Int.reduceBNe, Int.reduceBEq]
      simp only [setParts, e_a5, bR, Nat.reduceEqDiff, reduceIte, Int.reduceBNe, Int.reduceBEq]
      rw [stR3_ok z1 z2 rfl]
      simp only [setAt_nil, bR, Nat.reduceEqDiff, reduceIte, Int.reduceBNe, Int.reduceBEq]
      refine .done (hK _ ?_); clear hK K; simp only [thenQ, blockQ]
      have hr : takeR m o = (noM, askedOf m o) := by simp [takeR, h0]
      refine AW.ret ?_
      simp only [blockQ, thenQ, bR, Nat.reduceEqDiff, reduceIte, Int.reduceBNe, Int.reduceBEq]
      simp only [z2, typR, e_fin, bR, Nat.reduceEqDiff, reduceIte, Int.reduceBNe, Int.reduceBEq]
      rw [hr]; rfl
    · cases h
  obtain ⟨hm, ho⟩ := asked0 h0
  have hlen := okM_len hm
  rw [h0]
  refine AW.seq (AW.reg cd61_2 fun K hK => ?_)
  simp only [g61_2, bR, Nat.reduceEqDiff, reduceIte, Int.reduceBNe, Int.reduceBEq]
  refine .done (hK _ ?_); clear hK K; simp only [thenQ, blockQ]
  refine AW.ite ?_
  simp only [condQ, bR, Nat.reduceEqDiff, reduceIte, Int.reduceBNe, Int.reduceBEq]
  refine ⟨fun h => ?_, fun h => ?_⟩
  · cases h
  refine AW.skip ?_; simp only [thenQ, blockQ, reduceIte, Nat.reduceEqDiff]
  refine AW.seq (AW.reg cd61_4 fun K hK => ?_)
  simp only [g61_4, bR, Nat.reduceEqDiff, reduceIte, Int.reduceBNe, Int.reduceBEq]
  try simp only [typR, useR, okR, e_fin, bR, Nat.reduceEqDiff, reduceIte, Int.reduceBNe, Int.reduceBEq]
  refine .lead _ (F91 m o hm ho) ?_
  try simp only [typR, useR, okR, e_fin, bR, Nat.reduceEqDiff, reduceIte, Int.reduceBNe, Int.reduceBEq]
  refine .done (hK _ ?_); clear hK K; simp only [thenQ, blockQ]
  generalize hf : foundAt m.given o = bf
  refine AW.seq (AW.seq ?_)
  cases bf
  case false =>
    refine AW.reg cd61_5 fun K hK => ?_
    simp only [g61_5, bR, Nat.reduceEqDiff, reduceIte, Int.reduceBNe, Int.reduceBEq]
    refine .done (hK _ ?_); clear hK K; simp only [thenQ, blockQ]
    refine AW.ite ?_
    simp only [condQ, bR, Nat.reduceEqDiff, reduceIte, Int.reduceBNe, Int.reduceBEq]
    refine ⟨fun h => ?_, fun h => ?_⟩
    · refine AW.seq (AW.reg cd61_6 fun K hK => ?_)
      simp only [g61_6, bR, Nat.reduceEqDiff, reduceIte, Int.reduceBNe, Int.reduceBEq]
      simp only [setParts, e_a5, bR, Nat.reduceEqDiff, reduceIte, Int.reduceBNe, Int.reduceBEq]
      rw [stR3_ok z1 z2 rfl]
      simp only [setAt_nil, bR, Nat.reduceEqDiff, reduceIte, Int.reduceBNe, Int.reduceBEq]
      refine .done (hK _ ?_); clear hK K; simp only [thenQ, blockQ]
      have hr : takeR m o = (noM, 3) := by simp [takeR, h0, hf]
      refine AW.ret ?_
      simp only [blockQ, thenQ, bR, Nat.reduceEqDiff, reduceIte, Int.reduceBNe, Int.reduceBEq]
      simp only [z2, typR, e_fin, bR, Nat.reduceEqDiff, reduceIte, Int.reduceBNe, Int.reduceBEq]
      rw [hr]; rfl
    · cases h
  refine AW.reg cd61_5 fun K hK => ?_
  simp only [g61_5, bR, Nat.reduceEqDiff, reduceIte, Int.reduceBNe, Int.reduceBEq]
  refine .done (hK _ ?_); clear hK K; simp only [thenQ, blockQ]
  refine AW.ite ?_
  simp only [condQ, bR, Nat.reduceEqDiff, reduceIte, Int.reduceBNe, Int.reduceBEq]
  refine ⟨fun h => ?_, fun h => ?_⟩
  · cases h
  refine AW.skip ?_; simp only [thenQ, blockQ, reduceIte, Nat.reduceEqDiff]
  have hp := ((foundAt_index (o := o) hm).1 hf).2
  have hr : takeR m o = (⟨m.wear, m.fls, del m.given (posOf m.given o)⟩, 0) := by simp [takeR, h0, hf]
  generalize posOf m.given o = p at hp hr ⊢
  have hne : m.given ≠ [] := fun e => by rw [e] at hp; simp at hp
  have hdl := del_len hp
  refine AW.seq (AW.reg cd61_7 fun K hK => ?_)
  simp only [g61_7, bR, Nat.reduceEqDiff, reduceIte, Int.reduceBNe, Int.reduceBEq]
  simp only [typR, useR, okR, e_fin, bR, Nat.reduceEqDiff, reduceIte, Int.reduceBNe, Int.reduceBEq]
  refine .obj false [(7, 27)] [] [enc m.given] (clonePost m.given) rfl (F85 m.given (by omega)) Gvn.nil ⟨.inl ⟨(e_ren _ _).symm, e_only _ _, e_isVal _⟩, trivial⟩ ?_ ?_
  · rintro x os' (⟨_, h | h, rfl⟩ | ⟨_, k, rfl, rfl⟩)
    · subst h; exact Bck.nil (fun _ => rfl) (fun h => by cases h)
    · subst h; exact Bck.nil (fun _ => rfl) (fun h => by cases h)
    · exact Bck.new1 (fun p => map_only p _) (fun h => by cases h) rfl (fun h => by cases h) rfl (by decide)
  · rintro x os' (⟨hn, _, _⟩ | ⟨hn, k, rfl, rfl⟩)
    · exact absurd hn hne
    simp only [rowG, renR, rens_map_enc, List.cons_append, List.nil_append, bR, Nat.reduceEqDiff, reduceIte, Int.reduceBNe, Int.reduceBEq]
    rw [wrap_id _ (by omega) (by omega)]
    have hp1 : (p : Int) + 1 = ((p + 1 : Nat) : Int) := by omega
    simp only [hp1]
    refine .obj false [(1000000, 27)] (rowG 1000000 m.given k) [.view 1000000 [] 7 0 m.given.length, enc (p : Int), enc ((p + 1 : Nat) : Int)] (delAtPost m.given p) rfl (F104 m.given p k hp (by omega)) ⟨?_, ?_⟩ ⟨.inl ⟨?_, ?_, rfl⟩, .inl ⟨rfl, rfl, rfl⟩, .inl ⟨rfl, rfl, rfl⟩, trivial⟩ ?_ ?_
    · intro n x h
      simp only [rowG, lookO] at h
      split at h
      · rename_i hn'
        subst hn'
        simp only [Option.some.injEq] at h
        subst h
        exact ⟨by simp only [renR, rens_map_enc, bR, Nat.reduceEqDiff, reduceIte, Int.reduceBNe, Int.reduceBEq], map_only _ _, rfl⟩
      · cases h
    · intro a b ha hb _
      rw [isIn_one.1 ha, isIn_one.1 hb]
    · simp only [renR, bR, Nat.reduceEqDiff, reduceIte, Int.reduceBNe, Int.reduceBEq]
    · exact isIn_one.2 rfl
    · rintro x os' ⟨q, rfl, rfl⟩
      exact Bck.oneR (fun p => map_only p _) (fun h => by cases h) rfl (fun h => by cases h)
    · rintro x os' ⟨q, rfl, rfl⟩
      rw [← hdl]
      generalize del m.given p = L at hr ⊢
      simp only [rowG, renR, rens_map_enc, List.cons_append, List.nil_append, typR, bR, Nat.reduceEqDiff, reduceIte, Int.reduceBNe, Int.reduceBEq]
      rw [stR3_ok (s := none) (v := .view 27 [] 7 0 L.length) (old := enc m.given) rfl rfl (e_sh m.given).symm]
      have hset : (enc m : AV).setAt [2] (.view 27 [] 7 0 L.length) = .agg [enc m.wear, .int .i64 m.fls, .view 27 [] 7 0 L.length] := rfl
      rw [hset]
      obtain ⟨s1, s2, s3⟩ := bookL m.wear m.fls (.view 27 [] 7 0 L.length) rfl rfl rfl
      simp only [bR, Nat.reduceEqDiff, reduceIte, Int.reduceBNe, Int.reduceBEq]
      refine .done (hK _ ?_); clear hK K; simp only [thenQ, blockQ]
      refine AW.seq (AW.reg cd61_8 fun K hK => ?_)
      simp only [g61_8, bR, Nat.reduceEqDiff, reduceIte, Int.reduceBNe, Int.reduceBEq]
      simp only [s2, bR, Nat.reduceEqDiff, reduceIte, Int.reduceBNe, Int.reduceBEq]
      rw [stR3_ok s1 s2 (s3.trans z3.symm)]
      simp only [setAt_nil, bR, Nat.reduceEqDiff, reduceIte, Int.reduceBNe, Int.reduceBEq]
      refine .done (hK _ ?_); clear hK K; simp only [thenQ, blockQ]
      refine AW.ret ?_
      simp only [blockQ, thenQ, bR, Nat.reduceEqDiff, reduceIte, Int.reduceBNe, Int.reduceBEq]
      simp only [s2, finV_take (α := Given) (sz := 7) rfl, typR, e_fin, bR, Nat.reduceEqDiff, reduceIte, Int.reduceBNe, Int.reduceBEq]
      rw [e_M, take_row, hr]
end Go.Proofs.Ytkjkbpgdpnapfaa

/-
  FUNCTIONS OF THE REFERENCE BY CONTRACT: Give, Add, Take.
-/
namespace Go.Proofs.Ytkjkbpgdpnapfaa
open Go Go.Abs
open Go.Abs.Enc (enc)
theorem F58 (m : Marks) (o : Int) : Ctr Try.prog 58 [enc m, enc o] (.tuple [enc (giveR m o).1, enc (giveR m o).2]) := by
  refine Ctr.mk' Try.func58 ca58 cc58 cr58 (Nat.le_of_ble_eq_true rfl) (fun hwf W0 D0 E1 => ?_)
  simp only [c58, r58, idx, Nat.zero_add, Nat.reduceAdd]
  obtain ⟨z1, z2, z3⟩ := bookL (a5 0 0 0 0 0) 0 (.nils 7) rfl rfl rfl
  refine AW.seq (AW.reg cd58_0 fun K hK => ?_)
  simp only [g58_0, bR, Nat.reduceEqDiff, reduceIte, Int.reduceBNe, Int.reduceBEq]
  simp only [e_isVal, e_a5, bR, Nat.reduceEqDiff, reduceIte, Int.reduceBNe, Int.reduceBEq]
  refine .done (hK _ ?_); clear hK K; simp only [thenQ, blockQ]
  refine AW.seq (AW.reg cd58_1 fun K hK => ?_)
  simp only [g58_1, bR, Nat.reduceEqDiff, reduceIte, Int.reduceBNe, Int.reduceBEq]
  try simp only [typR, useR, okR, e_fin, bR, Nat.reduceEqDiff, reduceIte, Int.reduceBNe, Int.reduceBEq]
  refine .flat _ (F92 m o) rfl ?_
  try simp only [typR, useR, okR, e_fin, bR, Nat.reduceEqDiff, reduceIte, Int.reduceBNe, Int.reduceBEq]
  refine .done (hK _ ?_); clear hK K; simp only [thenQ, blockQ]
  refine AW.seq (AW.seq ?_)
  by_cases h0 : askedOf m o = 0
  case neg =>
    have hne : (askedOf m o != 0) = true := by simpa using h0
    refine AW.reg cd58_2 fun K hK => ?_
    simp only [g58_2, bR, Nat.reduceEqDiff, reduceIte, Int.reduceBNe, Int.reduceBEq]
    simp only [hne, bR, Nat.reduceEqDiff, reduceIte, Int.reduceBNe, Int.reduceBEq]
    refine .done (hK _ ?_); clear hK K; simp only [thenQ, blockQ]
    refine AW.ite ?_
    simp only [condQ, bR, Nat.reduceEqDiff, reduceIte, Int.reduceBNe, Int.reduceBEq]
    refine ⟨fun h => ?_, fun h => ?_⟩
    · refine AW.seq (AW.reg cd58_3 fun K hK => ?_)
      simp only [g58_3, bR, Nat.reduceEqDiff, reduceIte, Int.reduceBNe, Int.reduceBEq]
      simp only [setParts, e_a5, bR, Nat.reduceEqDiff, reduceIte, Int.reduceBNe, Int.reduceBEq]
      rw [stR3_ok z1 z2 rfl]
      simp only [setAt_nil, bR, Nat.reduceEqDiff, reduceIte, Int.reduceBNe, Int.reduceBEq]
      refine .done (hK _ ?_); clear hK K; simp only [thenQ, blockQ]
      have hr : giveR m o = (noM, askedOf m o) := by simp [giveR, h0]
      refine AW.ret ?_
      simp only [blockQ, thenQ, bR, Nat.reduceEqDiff, reduceIte, Int.reduceBNe, Int.reduceBEq]
      simp only [z2, typR, e_fin, bR, Nat.reduceEqDiff, reduceIte, Int.reduceBNe, Int.reduceBEq]
      rw [hr]; rfl
    · cases h
  obtain ⟨hm, ho⟩ := asked0 h0
  have hlen := okM_len hm
  rw [h0]
  refine AW.reg cd58_2 fun K hK => ?_
  simp only [g58_2, bR, Nat.reduceEqDiff, reduceIte, Int.reduceBNe, Int.reduceBEq]
  refine .done (hK _ ?_); clear hK K; simp only [thenQ, blockQ]
  refine AW.ite ?_
  simp only [condQ, bR, Nat.reduceEqDiff, reduceIte, Int.reduceBNe, Int.reduceBEq]
  refine ⟨fun h => ?_, fun h => ?_⟩
  · cases h
  refine AW.skip ?_; simp only [thenQ, blockQ, reduceIte, Nat.reduceEqDiff]
  have hix := foundAt_index (o := o) hm
  refine AW.seq (AW.seq ?_)
  refine AW.reg cd58_4 fun K hK => ?_
  simp only [g58_4, bR, Nat.reduceEqDiff, reduceIte, Int.reduceBNe, Int.reduceBEq]
  try simp only [typR, useR, okR, e_fin, bR, Nat.reduceEqDiff, reduceIte, Int.reduceBNe, Int.reduceBEq]
  refine .flat _ (F80 m o) rfl ?_
  try simp only [typR, useR, okR, e_fin, bR, Nat.reduceEqDiff, reduceIte, Int.reduceBNe, Int.reduceBEq]
  refine .done (hK _ ?_); clear hK K; simp only [thenQ, blockQ]
  generalize hf : foundAt m.given o = bf at hix
  cases bf
  case true =>
    rw [(hix.1 rfl).1]
    refine AW.ite ?_
    simp only [condQ, bR, Nat.reduceEqDiff, reduceIte, Int.reduceBNe, Int.reduceBEq]
    refine ⟨fun h => ?_, fun h => ?_⟩
    · refine AW.seq (AW.reg cd58_5 fun K hK => ?_)
      simp only [g58_5, bR, Nat.reduceEqDiff, reduceIte, Int.reduceBNe, Int.reduceBEq]
      simp only [setParts, e_a5, bR, Nat.reduceEqDiff, reduceIte, Int.reduceBNe, Int.reduceBEq]
      rw [stR3_ok z1 z2 rfl]
      simp only [setAt_nil, bR, Nat.reduceEqDiff, reduceIte, Int.reduceBNe, Int.reduceBEq]
      refine .done (hK _ ?_); clear hK K; simp only [thenQ, blockQ]
      have hr : giveR m o = (noM, 15) := by simp [giveR, h0, hf]
      refine AW.ret ?_
      simp only [blockQ, thenQ, bR, Nat.reduceEqDiff, reduceIte, Int.reduceBNe, Int.reduceBEq]
      simp only [z2, typR, e_fin, bR, Nat.reduceEqDiff, reduceIte, Int.reduceBNe, Int.reduceBEq]
      rw [hr]; rfl
    · simp at h
  rw [hix.2 rfl]
  refine AW.ite ?_
  simp only [condQ, bR, Nat.reduceEqDiff, reduceIte, Int.reduceBNe, Int.reduceBEq]
  refine ⟨fun h => ?_, fun h => ?_⟩
  · simp at h
  refine AW.skip ?_; simp only [thenQ, blockQ, reduceIte, Nat.reduceEqDiff]
  refine AW.seq (AW.reg cd58_6 fun K hK => ?_)
  simp only [g58_6, bR, Nat.reduceEqDiff, reduceIte, Int.reduceBNe, Int.reduceBEq]
  try simp only [typR, useR, okR, e_fin, bR, Nat.reduceEqDiff, reduceIte, Int.reduceBNe, Int.reduceBEq]
  refine .lead _ (F56 m) ?_
  simp only [typR, e_a6, stR3_6, bR, Nat.reduceEqDiff, reduceIte, Int.reduceBNe, Int.reduceBEq]
  refine .done (hK _ ?_); clear hK K; simp only [thenQ, blockQ]
  refine AW.seq (AW.seq ?_)
  by_cases hn : (nextOf m).2 = 0
  case neg =>
    have hne : ((nextOf m).2 != 0) = true := by simpa using hn
    refine AW.reg cd58_7 fun K hK => ?_
    simp only [g58_7, bR, Nat.reduceEqDiff, reduceIte, Int.reduceBNe, Int.reduceBEq]
    simp only [hne, bR, Nat.reduceEqDiff, reduceIte, Int.reduceBNe, Int.reduceBEq]
    refine .done (hK _ ?_); clear hK K; simp only [thenQ, blockQ]
    refine AW.ite ?_
    simp only [condQ, bR, Nat.reduceEqDiff, reduceIte, Int.reduceBNe, Int.reduceBEq]
    refine ⟨fun h => ?_, fun h => ?_⟩
    · refine AW.seq (AW.reg cd58_8 fun K hK => ?_)
      simp only [g58_8, bR, Nat.reduceEqDiff, reduceIte, Int.reduceBNe, Int.reduceBEq]
      simp only [setParts, e_a5, bR, Nat.reduceEqDiff, reduceIte, Int.reduceBNe, Int.reduceBEq]
      rw [stR3_ok z1 z2 rfl]
      simp only [setAt_nil, bR, Nat.reduceEqDiff, reduceIte, Int.reduceBNe, Int.reduceBEq]
      refine .done (hK _ ?_); clear hK K; simp only [thenQ, blockQ]
      have hr : giveR m o = (noM, (nextOf m).2) := by simp [giveR, h0, hf, hn]
      refine AW.ret ?_
      simp only [blockQ, thenQ, bR, Nat.reduceEqDiff, reduceIte, Int.reduceBNe, Int.reduceBEq]
      simp only [z2, typR, e_fin, bR, Nat.reduceEqDiff, reduceIte, Int.reduceBNe, Int.reduceBEq]
      rw [hr]; rfl
    · cases h
  rw [hn]
  refine AW.reg cd58_7 fun K hK => ?_
  simp only [g58_7, bR, Nat.reduceEqDiff, reduceIte, Int.reduceBNe, Int.reduceBEq]
  refine .done (hK _ ?_); clear hK K; simp only [thenQ, blockQ]
  refine AW.ite ?_
  simp only [condQ, bR, Nat.reduceEqDiff, reduceIte, Int.reduceBNe, Int.reduceBEq]
  refine ⟨fun h => ?_, fun h => ?_⟩
  · cases h
  refine AW.skip ?_; simp only [thenQ, blockQ, reduceIte, Nat.reduceEqDiff]
  refine AW.seq (AW.reg cd58_9 fun K hK => ?_)
  simp only [g58_9, bR, Nat.reduceEqDiff, reduceIte, Int.reduceBNe, Int.reduceBEq]
  simp only [typR, useR, okR, e_fin, e_a6, bldG, e_G, bR, Nat.reduceEqDiff, reduceIte, Int.reduceBNe, Int.reduceBEq]
  refine .lead _ (F103 m ⟨o, (nextOf m).1⟩ hm hf) ?_
  simp only [bR, Nat.reduceEqDiff, reduceIte, Int.reduceBNe, Int.reduceBEq]
  rw [stR3_ok (e_isVal _) (by rw [e_okS]; rfl) ((e_sh _).trans z3.symm)]
  simp only [setAt_nil, bR, Nat.reduceEqDiff, reduceIte, Int.reduceBNe, Int.reduceBEq]
  refine .done (hK _ ?_); clear hK K; simp only [thenQ, blockQ]
  have hr : giveR m o = (withM m ⟨o, (nextOf m).1⟩, 0) := by simp [giveR, h0, hf, hn]
  refine AW.ret ?_
  simp only [blockQ, thenQ, bR, Nat.reduceEqDiff, reduceIte, Int.reduceBNe, Int.reduceBEq]
  simp only [typR, e_fin, bR, Nat.reduceEqDiff, reduceIte, Int.reduceBNe, Int.reduceBEq]
  rw [hr]; rfl
theorem F60 (m : Marks) (g : Given) : Ctr Try.prog 60 [enc m, enc g] (.tuple [enc (addR m g).1, enc (addR m g).2]) := by
  refine Ctr.mk' Try.func60 ca60 cc60 cr60 (Nat.le_of_ble_eq_true rfl) (fun hwf W0 D0 E1 => ?_)
  simp only [c60, r60, idx, Nat.zero_add, Nat.reduceAdd]
  obtain ⟨z1, z2, z3⟩ := bookL (a5 0 0 0 0 0) 0 (.nils 7) rfl rfl rfl
  refine AW.seq (AW.reg cd60_0 fun K hK => ?_)
  simp only [g60_0, bR, Nat.reduceEqDiff, reduceIte, Int.reduceBNe, Int.reduceBEq]
  simp only [e_isVal, e_a5, bR, Nat.reduceEqDiff, reduceIte, Int.reduceBNe, Int.reduceBEq]
  refine .done (hK _ ?_); clear hK K; simp only [thenQ, blockQ]
  refine AW.seq (AW.reg cd60_1 fun K hK => ?_)
  simp only [g60_1, bR, Nat.reduceEqDiff, reduceIte, Int.reduceBNe, Int.reduceBEq]
  try simp only [typR, useR, okR, e_fin, bR, Nat.reduceEqDiff, reduceIte, Int.reduceBNe, Int.reduceBEq]
  refine .flat _ (F92 m g.owner) rfl ?_
  try simp only [typR, useR, okR, e_fin, bR, Nat.reduceEqDiff, reduceIte, Int.reduceBNe, Int.reduceBEq]
  refine .done (hK _ ?_); clear hK K; simp only [thenQ, blockQ]
  refine AW.seq (AW.seq ?_)
  by_cases h0 : askedOf m g.owner = 0
  case neg =>
    have hne : (askedOf m g.owner != 0) = true := by simpa using h0
    refine AW.reg cd60_2 fun K hK => ?_
    simp only [g60_2, bR, Nat.reduceEqDiff, reduceIte, Int.reduceBNe, Int.reduceBEq]
    simp only [hne, bR, Nat.reduceEqDiff, reduceIte, Int.reduceBNe, Int.reduceBEq]
    refine .done (hK _ ?_); clear hK K; simp only [thenQ, blockQ]
    refine AW.ite ?_
    simp only [condQ, bR, Nat.reduceEqDiff, reduceIte, Int.reduceBNe, Int.reduceBEq]
    refine ⟨fun h => ?_, fun h => ?_⟩
    · refine AW.seq (AW.reg cd60_3 fun K hK => ?_)
      simp only [g60_3, bR, Nat.reduceEqDiff, reduceIte, Int.reduceBNe, Int.reduceBEq]
      simp only [setParts, e_a5, bR, Nat.reduceEqDiff, reduceIte, Int.reduceBNe, Int.reduceBEq]
      rw [stR3_ok z1 z2 rfl]
      simp only [setAt_nil, bR, Nat.reduceEqDiff, reduceIte, Int.reduceBNe, Int.reduceBEq]
      refine .done (hK _ ?_); clear hK K; simp only [thenQ, blockQ]
      have hr : addR m g = (noM, askedOf m g.owner) := by simp [addR, h0]
      refine AW.ret ?_
      simp only [blockQ, thenQ, bR, Nat.reduceEqDiff, reduceIte, Int.reduceBNe, Int.reduceBEq]
      simp only [z2, typR, e_fin, bR, Nat.reduceEqDiff, reduceIte, Int.reduceBNe, Int.reduceBEq]
      rw [hr]; rfl
    · cases h
  obtain ⟨hm, ho⟩ := asked0 h0
  have hlen := okM_len hm
  rw [h0]
  refine AW.reg cd60_2 fun K hK => ?_
  simp only [g60_2, bR, Nat.reduceEqDiff, reduceIte, Int.reduceBNe, Int.reduceBEq]
  refine .done (hK _ ?_); clear hK K; simp only [thenQ, blockQ]
  refine AW.ite ?_
  simp only [condQ, bR, Nat.reduceEqDiff, reduceIte, Int.reduceBNe, Int.reduceBEq]
  refine ⟨fun h => ?_, fun h => ?_⟩
  · cases h
  refine AW.skip ?_; simp only [thenQ, blockQ, reduceIte, Nat.reduceEqDiff]
  have hix := foundAt_index (o := g.owner) hm
  refine AW.seq (AW.seq ?_)
  refine AW.reg cd60_4 fun K hK => ?_
  simp only [g60_4, bR, Nat.reduceEqDiff, reduceIte, Int.reduceBNe, Int.reduceBEq]
  try simp only [typR, useR, okR, e_fin, bR, Nat.reduceEqDiff, reduceIte, Int.reduceBNe, Int.reduceBEq]
  refine .flat _ (F80 m g.owner) rfl ?_
  try simp only [typR, useR, okR, e_fin, bR, Nat.reduceEqDiff, reduceIte, Int.reduceBNe, Int.reduceBEq]
  refine .done (hK _ ?_); clear hK K; simp only [thenQ, blockQ]
  generalize hf : foundAt m.given g.owner = bf at hix
  cases bf
  case true =>
    rw [(hix.1 rfl).1]
    refine AW.ite ?_
    simp only [condQ, bR, Nat.reduceEqDiff, reduceIte, Int.reduceBNe, Int.reduceBEq]
    refine ⟨fun h => ?_, fun h => ?_⟩
    · refine AW.seq (AW.reg cd60_5 fun K hK => ?_)
      simp only [g60_5, bR, Nat.reduceEqDiff, reduceIte, Int.reduceBNe, Int.reduceBEq]
      simp only [setParts, e_a5, bR, Nat.reduceEqDiff, reduceIte, Int.reduceBNe, Int.reduceBEq]
      rw [stR3_ok z1 z2 rfl]
      simp only [setAt_nil, bR, Nat.reduceEqDiff, reduceIte, Int.reduceBNe, Int.reduceBEq]
      refine .done (hK _ ?_); clear hK K; simp only [thenQ, blockQ]
      have hr : addR m g = (noM, 15) := by simp [addR, h0, hf]
      refine AW.ret ?_
      simp only [blockQ, thenQ, bR, Nat.reduceEqDiff, reduceIte, Int.reduceBNe, Int.reduceBEq]
      simp only [z2, typR, e_fin, bR, Nat.reduceEqDiff, reduceIte, Int.reduceBNe, Int.reduceBEq]
      rw [hr]; rfl
    · simp at h
  rw [hix.2 rfl]
  refine AW.ite ?_
  simp only [condQ, bR, Nat.reduceEqDiff, reduceIte, Int.reduceBNe, Int.reduceBEq]
  refine ⟨fun h => ?_, fun h => ?_⟩
  · simp at h
  refine AW.skip ?_; simp only [thenQ, blockQ, reduceIte, Nat.reduceEqDiff]
  refine AW.seq (AW.seq ?_)
  refine AW.reg cd60_6 fun K hK => ?_
  simp only [g60_6, bR, Nat.reduceEqDiff, reduceIte, Int.reduceBNe, Int.reduceBEq]
  simp only [typR, useR, okR, e_fin, bR, Nat.reduceEqDiff, reduceIte, Int.reduceBNe, Int.reduceBEq]
  refine .flat _ (F42' g.mark) rfl ?_
  try simp only [typR, useR, okR, e_fin, bR, Nat.reduceEqDiff, reduceIte, Int.reduceBNe, Int.reduceBEq]
  refine .done (hK _ ?_); clear hK K; simp only [thenQ, blockQ]
  generalize hk : okMark g.mark = bk
  cases bk
  case false =>
    refine AW.ite ?_
    simp only [condQ, bR, Nat.reduceEqDiff, reduceIte, Int.reduceBNe, Int.reduceBEq]
    refine ⟨fun h => ?_, fun h => ?_⟩
    · refine AW.seq (AW.reg cd60_7 fun K hK => ?_)
      simp only [g60_7, bR, Nat.reduceEqDiff, reduceIte, Int.reduceBNe, Int.reduceBEq]
      simp only [setParts, e_a5, bR, Nat.reduceEqDiff, reduceIte, Int.reduceBNe, Int.reduceBEq]
      rw [stR3_ok z1 z2 rfl]
      simp only [setAt_nil, bR, Nat.reduceEqDiff, reduceIte, Int.reduceBNe, Int.reduceBEq]
      refine .done (hK _ ?_); clear hK K; simp only [thenQ, blockQ]
      have hr : addR m g = (noM, 10) := by simp [addR, h0, hf, hk]
      refine AW.ret ?_
      simp only [blockQ, thenQ, bR, Nat.reduceEqDiff, reduceIte, Int.reduceBNe, Int.reduceBEq]
      simp only [z2, typR, e_fin, bR, Nat.reduceEqDiff, reduceIte, Int.reduceBNe, Int.reduceBEq]
      rw [hr]; rfl
    · simp at h
  refine AW.ite ?_
  simp only [condQ, bR, Nat.reduceEqDiff, reduceIte, Int.reduceBNe, Int.reduceBEq]
  refine ⟨fun h => ?_, fun h => ?_⟩
  · simp at h
  refine AW.skip ?_; simp only [thenQ, blockQ, reduceIte, Nat.reduceEqDiff]
  refine AW.seq (AW.seq ?_)
  refine AW.reg cd60_8 fun K hK => ?_
  simp only [g60_8, bR, Nat.reduceEqDiff, reduceIte, Int.reduceBNe, Int.reduceBEq]
  try simp only [typR, useR, okR, e_fin, bR, Nat.reduceEqDiff, reduceIte, Int.reduceBNe, Int.reduceBEq]
  refine .done (hK _ ?_); clear hK K; simp only [thenQ, blockQ]
  by_cases h40 : m.given.length = 40
  case pos =>
    refine AW.ite ?_
    simp only [condQ, bR, Nat.reduceEqDiff, reduceIte, Int.reduceBNe, Int.reduceBEq]
    refine ⟨fun h => ?_, fun h => ?_⟩
    · refine AW.seq (AW.reg cd60_9 fun K hK => ?_)
      simp only [g60_9, bR, Nat.reduceEqDiff, reduceIte, Int.reduceBNe, Int.reduceBEq]
      simp only [setParts, e_a5, bR, Nat.reduceEqDiff, reduceIte, Int.reduceBNe, Int.reduceBEq]
      rw [stR3_ok z1 z2 rfl]
      simp only [setAt_nil, bR, Nat.reduceEqDiff, reduceIte, Int.reduceBNe, Int.reduceBEq]
      refine .done (hK _ ?_); clear hK K; simp only [thenQ, blockQ]
      have hr : addR m g = (noM, 16) := by simp [addR, h0, hf, hk, h40]
      refine AW.ret ?_
      simp only [blockQ, thenQ, bR, Nat.reduceEqDiff, reduceIte, Int.reduceBNe, Int.reduceBEq]
      simp only [z2, typR, e_fin, bR, Nat.reduceEqDiff, reduceIte, Int.reduceBNe, Int.reduceBEq]
      rw [hr]; rfl
    · simp at h; omega
  refine AW.ite ?_
  simp only [condQ, bR, Nat.reduceEqDiff, reduceIte, Int.reduceBNe, Int.reduceBEq]
  refine ⟨fun h => ?_, fun h => ?_⟩
  · simp at h; omega
  refine AW.skip ?_; simp only [thenQ, blockQ, reduceIte, Nat.reduceEqDiff]
  refine AW.seq (AW.seq ?_)
  refine AW.reg cd60_10 fun K hK => ?_
  simp only [g60_10, bR, Nat.reduceEqDiff, reduceIte, Int.reduceBNe, Int.reduceBEq]
  simp only [typR, useR, okR, e_fin, bR, Nat.reduceEqDiff, reduceIte, Int.reduceBNe, Int.reduceBEq]
  refine .flat _ (F83 m g.mark (okM_book hm) hk) rfl ?_
  have hbl : (m.given.any fun h => decide ((cnt (apartAt m.wear h.mark g.mark) 6 : Int) ≤ IntKind.i64.wrap (2 * m.fls))) = blocked m g.mark := rfl
  rw [hbl]
  try simp only [typR, useR, okR, e_fin, bR, Nat.reduceEqDiff, reduceIte, Int.reduceBNe, Int.reduceBEq]
  refine .done (hK _ ?_); clear hK K; simp only [thenQ, blockQ]
  generalize hb : blocked m g.mark = bb
  cases bb
  case true =>
    refine AW.ite ?_
    simp only [condQ, bR, Nat.reduceEqDiff, reduceIte, Int.reduceBNe, Int.reduceBEq]
    refine ⟨fun h => ?_, fun h => ?_⟩
    · refine AW.seq (AW.reg cd60_11 fun K hK => ?_)
      simp only [g60_11, bR, Nat.reduceEqDiff, reduceIte, Int.reduceBNe, Int.reduceBEq]
      simp only [setParts, e_a5, bR, Nat.reduceEqDiff, reduceIte, Int.reduceBNe, Int.reduceBEq]
      rw [stR3_ok z1 z2 rfl]
      simp only [setAt_nil, bR, Nat.reduceEqDiff, reduceIte, Int.reduceBNe, Int.reduceBEq]
      refine .done (hK _ ?_); clear hK K; simp only [thenQ, blockQ]
      have hr : addR m g = (noM, 19) := by simp [addR, h0, hf, hk, h40, hb]
      refine AW.ret ?_
      simp only [blockQ, thenQ, bR, Nat.reduceEqDiff, reduceIte, Int.reduceBNe, Int.reduceBEq]
      simp only [z2, typR, e_fin, bR, Nat.reduceEqDiff, reduceIte, Int.reduceBNe, Int.reduceBEq]
      rw [hr]; rfl
    · cases h
  refine AW.ite ?_
  simp only [condQ, bR, Nat.reduceEqDiff, reduceIte, Int.reduceBNe, Int.reduceBEq]
  refine ⟨fun h => ?_, fun h => ?_⟩
  · cases h
  refine AW.skip ?_; simp only [thenQ, blockQ, reduceIte, Nat.reduceEqDiff]
  refine AW.seq (AW.reg cd60_12 fun K hK => ?_)
  simp only [g60_12, bR, Nat.reduceEqDiff, reduceIte, Int.reduceBNe, Int.reduceBEq]
  simp only [typR, useR, okR, e_fin, bR, Nat.reduceEqDiff, reduceIte, Int.reduceBNe, Int.reduceBEq]
  refine .lead _ (F103 m g hm hf) ?_
  simp only [bR, Nat.reduceEqDiff, reduceIte, Int.reduceBNe, Int.reduceBEq]
  rw [stR3_ok (e_isVal _) (by rw [e_okS]; rfl) ((e_sh _).trans z3.symm)]
  simp only [setAt_nil, bR, Nat.reduceEqDiff, reduceIte, Int.reduceBNe, Int.reduceBEq]
  refine .done (hK _ ?_); clear hK K; simp only [thenQ, blockQ]
  have hr : addR m g = (withM m g, 0) := by simp [addR, h0, hf, hk, h40, hb]
  refine AW.ret ?_
  simp only [blockQ, thenQ, bR, Nat.reduceEqDiff, reduceIte, Int.reduceBNe, Int.reduceBEq]
  simp only [typR, e_fin, bR, Nat.reduceEqDiff, reduceIte, Int.reduceBNe, Int.reduceBEq]
  rw [hr]; rfl
theorem del_succ (l : List Given) (k : Nat) {i : Nat} (h : i < l.length) : del (l.take (i + 1)) k = del (l.take i) k ++ if i = k then [] else [l[i]] := by
  have ht : l.take (i + 1) = l.take i ++ [l[i]] := List.take_succ_eq_append_getElem h
  have hl : (l.take i).length = i := by rw [List.length_take]; omega
  rw [ht]
  generalize l.take i = a at hl ⊢
  generalize l[i] = x
  have hl2 : (a ++ [x]).length = i + 1 := by simp [hl]
  simp only [del]
  rcases Nat.lt_trichotomy i k with h1 | h1 | h1
  · have e1 : (a ++ [x]).take k = a ++ [x] := List.take_of_length_le (by omega)
    have e2 : (a ++ [x]).drop (k + 1) = [] := List.drop_eq_nil_of_le (by omega)
    have e3 : a.take k = a := List.take_of_length_le (by omega)
    have e4 : a.drop (k + 1) = [] := List.drop_eq_nil_of_le (by omega)
    rw [if_neg (by omega), e1, e2, e3, e4]; simp
  · subst h1
    have e2 : (a ++ [x]).drop (i + 1) = [] := List.drop_eq_nil_of_le (by omega)
    have e4 : a.drop (i + 1) = [] := List.drop_eq_nil_of_le (by omega)
    rw [if_pos rfl, List.take_append_of_le_length (by omega), e2, e4]; simp
  · rw [if_neg (by omega), List.take_append_of_le_length (by omega), List.drop_append_of_le_length (by omega), List.append_assoc]
theorem del_le (l : List Given) (k i : Nat) : (del (l.take i) k).length ≤ l.length + l.length := by
  simp only [del, List.length_append, List.length_take, List.length_drop]; omega
theorem F62 (m : Marks) (o : Int) : Ctr Try.prog 62 [enc m, enc o] (.tuple [enc (takeR m o).1, enc (takeR m o).2]) := by
  refine Ctr.mk' Try.func62 ca62 cc62 cr62 (Nat.le_of_ble_eq_true rfl) (fun hwf W0 D0 E1 => ?_)
  simp only [c62, r62, idx, Nat.zero_add, Nat.reduceAdd]
  obtain ⟨z1, z2, z3⟩ := bookL (a5 0 0 0 0 0) 0 (.nils 7) rfl rfl rfl
  refine AW.seq (AW.reg cd62_0 fun K hK => ?_)
  simp only [g62_0, bR, Nat.reduceEqDiff, reduceIte, Int.reduceBNe, Int.reduceBEq]
  simp only [e_isVal, e_a5, bR, Nat.reduceEqDiff, reduceIte, Int.reduceBNe, Int.reduceBEq]
  refine .done (hK _ ?_); clear hK K; simp only [thenQ, blockQ]
  refine AW.seq (AW.reg cd62_1 fun K hK => ?_)
  simp only [g62_1, bR, Nat.reduceEqDiff, reduceIte, Int.reduceBNe, Int.reduceBEq]
  try simp only [typR, useR, okR, e_fin, bR, Nat.reduceEqDiff, reduceIte, Int.reduceBNe, Int.reduceBEq]
  refine .flat _ (F92 m o) rfl ?_
  try simp only [typR, useR, okR, e_fin, bR, Nat.reduceEqDiff, reduceIte, Int.reduceBNe, Int.reduceBEq]
  refine .done (hK _ ?_); clear hK K; simp only [thenQ, blockQ]
  refine AW.seq (AW.seq ?_)
  by_cases h0 : askedOf m o = 0
  case neg =>
    have hne : (askedOf m o != 0) = true := by simpa using h0
    refine AW.reg cd62_2 fun K hK => ?_
    simp only [g62_2, bR, Nat.reduceEqDiff, reduceIte, Int.reduceBNe, Int.reduceBEq]
    simp only [hne, bR, Nat.reduceEqDiff, reduceIte, Int.reduceBNe, Int.reduceBEq]
    refine .done (hK _ ?_); clear hK K; simp only [thenQ, blockQ]
    refine AW.ite ?_
    simp only [condQ, bR, Nat.reduceEqDiff, reduceIte, Int.reduceBNe, Int.reduceBEq]
    refine ⟨fun h => ?_, fun h => ?_⟩
    · refine AW.seq (AW.reg cd62_3 fun K hK => ?_)
      simp only [g62_3, bR, Nat.reduceEqDiff, reduceIte, Int.reduceBNe, Int.reduceBEq]
      simp only [setParts, e_a5, bR, Nat.reduceEqDiff, reduceIte, Int.reduceBNe, Int.reduceBEq]
      rw [stR3_ok z1 z2 rfl]
      simp only [setAt_nil, bR, Nat.reduceEqDiff, reduceIte, Int.reduceBNe, Int.reduceBEq]
      refine .done (hK _ ?_); clear hK K; simp only [thenQ, blockQ]
      have hr : takeR m o = (noM, askedOf m o) := by simp [takeR, h0]
      refine AW.ret ?_
      simp only [blockQ, thenQ, bR, Nat.reduceEqDiff, reduceIte, Int.reduceBNe, Int.reduceBEq]
      simp only [z2, typR, e_fin, bR, Nat.reduceEqDiff, reduceIte, Int.reduceBNe, Int.reduceBEq]
      rw [hr]; rfl
    · cases h
  obtain ⟨hm, ho⟩ := asked0 h0
  have hlen := okM_len hm
  rw [h0]
  refine AW.reg cd62_2 fun K hK => ?_
  simp only [g62_2, bR, Nat.reduceEqDiff, reduceIte, Int.reduceBNe, Int.reduceBEq]
  refine .done (hK _ ?_); clear hK K; simp only [thenQ, blockQ]
  refine AW.ite ?_
  simp only [condQ, bR, Nat.reduceEqDiff, reduceIte, Int.reduceBNe, Int.reduceBEq]
  refine ⟨fun h => ?_, fun h => ?_⟩
  · cases h
  refine AW.skip ?_; simp only [thenQ, blockQ, reduceIte, Nat.reduceEqDiff]
  have hix := foundAt_index (o := o) hm
  refine AW.seq (AW.reg cd62_4 fun K hK => ?_)
  simp only [g62_4, bR, Nat.reduceEqDiff, reduceIte, Int.reduceBNe, Int.reduceBEq]
  try simp only [typR, useR, okR, e_fin, bR, Nat.reduceEqDiff, reduceIte, Int.reduceBNe, Int.reduceBEq]
  refine .flat _ (F80 m o) rfl ?_
  try simp only [typR, useR, okR, e_fin, bR, Nat.reduceEqDiff, reduceIte, Int.reduceBNe, Int.reduceBEq]
  refine .done (hK _ ?_); clear hK K; simp only [thenQ, blockQ]
  refine AW.seq (AW.seq ?_)
  generalize hf : foundAt m.given o = bf at hix
  cases bf
  case false =>
    rw [hix.2 rfl]
    refine AW.reg cd62_5 fun K hK => ?_
    simp only [g62_5, bR, Nat.reduceEqDiff, reduceIte, Int.reduceBNe, Int.reduceBEq]
    refine .done (hK _ ?_); clear hK K; simp only [thenQ, blockQ]
    refine AW.ite ?_
    simp only [condQ, bR, Nat.reduceEqDiff, reduceIte, Int.reduceBNe, Int.reduceBEq]
    refine ⟨fun h => ?_, fun h => ?_⟩
    · refine AW.seq (AW.reg cd62_6 fun K hK => ?_)
      simp only [g62_6, bR, Nat.reduceEqDiff, reduceIte, Int.reduceBNe, Int.reduceBEq]
      simp only [setParts, e_a5, bR, Nat.reduceEqDiff, reduceIte, Int.reduceBNe, Int.reduceBEq]
      rw [stR3_ok z1 z2 rfl]
      simp only [setAt_nil, bR, Nat.reduceEqDiff, reduceIte, Int.reduceBNe, Int.reduceBEq]
      refine .done (hK _ ?_); clear hK K; simp only [thenQ, blockQ]
      have hr : takeR m o = (noM, 3) := by simp [takeR, h0, hf]
      refine AW.ret ?_
      simp only [blockQ, thenQ, bR, Nat.reduceEqDiff, reduceIte, Int.reduceBNe, Int.reduceBEq]
      simp only [z2, typR, e_fin, bR, Nat.reduceEqDiff, reduceIte, Int.reduceBNe, Int.reduceBEq]
      rw [hr]; rfl
    · simp at h
  have hr : takeR m o = (⟨m.wear, m.fls, del m.given (posOf m.given o)⟩, 0) := by simp [takeR, h0, hf]
  obtain ⟨hi1, hp⟩ := hix.1 rfl
  rw [hi1]
  generalize posOf m.given o = p at hp hr ⊢
  refine AW.reg cd62_5 fun K hK => ?_
  simp only [g62_5, bR, Nat.reduceEqDiff, reduceIte, Int.reduceBNe, Int.reduceBEq]
  refine .done (hK _ ?_); clear hK K; simp only [thenQ, blockQ]
  refine AW.ite ?_
  simp only [condQ, bR, Nat.reduceEqDiff, reduceIte, Int.reduceBNe, Int.reduceBEq]
  refine ⟨fun h => ?_, fun h => ?_⟩
  · exfalso
    have : (p : Int) < 0 := by simpa using h
    omega
  refine AW.skip ?_; simp only [thenQ, blockQ, reduceIte, Nat.reduceEqDiff]
  refine AW.seq (AW.reg cd62_7 fun K hK => ?_)
  simp only [g62_7, bR, Nat.reduceEqDiff, reduceIte, Int.reduceBNe, Int.reduceBEq]
  simp only [typR, useR, okR, e_fin, e_a5, bldM2, bR, Nat.reduceEqDiff, reduceIte, Int.reduceBNe, Int.reduceBEq]
  obtain ⟨q1, q2, q3⟩ := bookL m.wear m.fls (.nils 7) rfl rfl rfl
  rw [stR3_ok q1 q2 (q3.trans z3.symm)]
  simp only [setAt_nil, bR, Nat.reduceEqDiff, reduceIte, Int.reduceBNe, Int.reduceBEq]
  refine .done (hK _ ?_); clear hK K; simp only [thenQ, blockQ]
  refine AW.seq (AW.seq ?_)
  refine AW.reg cd62_8 fun K hK => ?_
  simp only [g62_8, bR, Nat.reduceEqDiff, reduceIte, Int.reduceBNe, Int.reduceBEq]
  refine .done (hK _ ?_); clear hK K; simp only [thenQ, blockQ]
  refine AW.block (AW.loop (fun i : Nat => mkA [(2, .ptr 2 []), (4, .ptr 4 []), (7, .int .i64 p), (8, .ptr 8 []), (9, .int .i64 i)] [(1, .row 43 7 ((del (m.given.take i) p).map enc)), (2, .box (enc m)), (4, .box (.agg [enc (a5 0 0 0 0 0), .int .i64 0, .nils 7])), (8, .box (.agg [enc m.wear, .int .i64 m.fls, .own 1 (del (m.given.take i) p).length]))]) (fun i => i ≤ m.given.length) (fun i => m.given.length - i) 0 (by omega) ?_ (fun i hi => ?_))
  · refine Sub.adoptBL 8 1 43 7 7 [2] (.agg [enc m.wear, .int .i64 m.fls, .nils 7]) ?_ rfl ?_ ?_
    · simp only [bR, Nat.reduceEqDiff, reduceIte, Int.reduceBNe, Int.reduceBEq]
    · simp only [bR, Nat.reduceEqDiff, reduceIte, Int.reduceBNe, Int.reduceBEq]
    · have e1 : (AV.agg [enc m.wear, .int .i64 m.fls, .nils 7]).setAt [2] (.own 1 0) = .agg [enc m.wear, .int .i64 m.fls, .own 1 0] := rfl
      have e2 : del (m.given.take 0) p = [] := by simp [del]
      rw [e1]
      simp only [e2, List.map_nil, List.length_nil]
      refine Sub.of_lists ?_ ?_ ?_ ?_ <;> simp [subT, subO, onlyT, onlyO, isIn, look_cons, lookO_cons, lookO_nil, AV.only, AV.onlys, AO.only, onlys_map, onlys_append, e_only, e_int, e_bool]
  have hol := del_le m.given p i
  refine AW.seq (AW.seq ?_)
  refine AW.reg cd62_9 fun K hK => ?_
  simp only [g62_9, bR, Nat.reduceEqDiff, reduceIte, Int.reduceBNe, Int.reduceBEq]
  try simp only [typR, useR, okR, e_fin, bR, Nat.reduceEqDiff, reduceIte, Int.reduceBNe, Int.reduceBEq]
  refine .done (hK _ ?_); clear hK K; simp only [thenQ, blockQ]
  refine AW.ite ?_
  simp only [condQ, bR, Nat.reduceEqDiff, reduceIte, Int.reduceBNe, Int.reduceBEq]
  refine ⟨fun h => ?_, fun h => ?_⟩
  case refine_2.refine_2 =>
    have hie : i = m.given.length := by simp at h; omega
    have hfull : m.given.take i = m.given := by rw [hie, List.take_length]
    rw [hfull]
    refine AW.exit ?_; simp only [thenQ, blockQ, reduceIte, Nat.reduceEqDiff]
    obtain ⟨s1, s2, s3⟩ := bookL m.wear m.fls (.own 1 (del m.given p).length) rfl rfl rfl
    refine AW.seq (AW.reg cd62_13 fun K hK => ?_)
    simp only [g62_13, bR, Nat.reduceEqDiff, reduceIte, Int.reduceBNe, Int.reduceBEq]
    simp only [s2, bR, Nat.reduceEqDiff, reduceIte, Int.reduceBNe, Int.reduceBEq]
    rw [stR3_ok s1 s2 (s3.trans z3.symm)]
    simp only [setAt_nil, bR, Nat.reduceEqDiff, reduceIte, Int.reduceBNe, Int.reduceBEq]
    refine .done (hK _ ?_); clear hK K; simp only [thenQ, blockQ]
    refine AW.ret ?_
    simp only [blockQ, thenQ, bR, Nat.reduceEqDiff, reduceIte, Int.reduceBNe, Int.reduceBEq]
    simp only [s2, finO_enc (α := Given) 7 rfl rfl, typR, e_fin, bR, Nat.reduceEqDiff, reduceIte, Int.reduceBNe, Int.reduceBEq]
    rw [e_M, hr]
  have hlt : i < m.given.length := by simpa using h
  have hsucc := del_succ m.given p hlt
  rw [gv_eq hlt] at hsucc
  generalize del (m.given.take i) p = out at hsucc hol ⊢
  refine AW.skip ?_; simp only [thenQ, blockQ, reduceIte, Nat.reduceEqDiff]
  refine AW.seq (AW.block ?_)
  refine AW.seq (AW.reg cd62_10 fun K hK => ?_)
  simp only [g62_10, bR, Nat.reduceEqDiff, reduceIte, Int.reduceBNe, Int.reduceBEq]
  refine .done (hK _ ?_); clear hK K; simp only [thenQ, blockQ]
  by_cases hip : i = p
  · rw [if_pos hip, List.append_nil] at hsucc
    refine AW.ite ?_
    simp only [condQ, bR, Nat.reduceEqDiff, reduceIte, Int.reduceBNe, Int.reduceBEq]
    refine ⟨fun h => ?_, fun h => ?_⟩
    · exfalso
      have : ¬ (i : Int) = p := by simpa using h
      omega
    refine AW.skip ?_; simp only [thenQ, blockQ, reduceIte, Nat.reduceEqDiff]
    refine AW.reg cd62_12 fun K hK => ?_
    simp only [g62_12, bR, Nat.reduceEqDiff, reduceIte, Int.reduceBNe, Int.reduceBEq]
    refine .done (hK _ ?_); clear hK K; simp only [thenQ, blockQ]
    refine ⟨i + 1, by omega, by omega, ?_⟩
    rw [wrap_id _ (by omega) (by omega), hsucc]
    refine Sub.of_lists ?_ ?_ ?_ ?_ <;> simp [subT, subO, onlyT, onlyO, isIn, look_cons, lookO_cons, lookO_nil, AV.only, AV.onlys, AO.only, onlys_map, onlys_append, e_only, e_int, e_bool]
  · rw [if_neg hip] at hsucc
    refine AW.ite ?_
    simp only [condQ, bR, Nat.reduceEqDiff, reduceIte, Int.reduceBNe, Int.reduceBEq]
    refine ⟨fun h => ?_, fun h => ?_⟩
    · refine AW.reg cd62_11 fun K hK => ?_
      simp only [g62_11, bR, Nat.reduceEqDiff, reduceIte, Int.reduceBNe, Int.reduceBEq]
      simp only [isE_gv hlt, offB, typR, useR, okR, e_fin, bR, Nat.reduceEqDiff, reduceIte, Int.reduceBNe, Int.reduceBEq]
      simp only [bsE_one 7 (gv m i) rfl, bR, Nat.reduceEqDiff, reduceIte, Int.reduceBNe, Int.reduceBEq]
      rw [appR3_enc (α := Given) 43 7 56 1 rfl rfl (by simp) (by simp [maxLen]; omega) (by simp; omega)]
      simp only [offB, typR, useR, okR, e_fin, bR, Nat.reduceEqDiff, reduceIte, Int.reduceBNe, Int.reduceBEq]
      rw [stR3_ok (s := none) (v := .own 1 (out ++ [gv m i]).length) (old := .own 1 out.length) rfl rfl rfl]
      have hset2 : (AV.agg [enc m.wear, .int .i64 m.fls, .own 1 out.length]).setAt [2] (.own 1 (out ++ [gv m i]).length) = .agg [enc m.wear, .int .i64 m.fls, .own 1 (out ++ [gv m i]).length] := rfl
      simp only [hset2, bR, Nat.reduceEqDiff, reduceIte, Int.reduceBNe, Int.reduceBEq]
      refine .done (hK _ ?_); clear hK K; simp only [thenQ, blockQ]
      refine AW.reg cd62_12 fun K hK => ?_
      simp only [g62_12, bR, Nat.reduceEqDiff, reduceIte, Int.reduceBNe, Int.reduceBEq]
      refine .done (hK _ ?_); clear hK K; simp only [thenQ, blockQ]
      refine ⟨i + 1, by omega, by omega, ?_⟩
      rw [wrap_id _ (by omega) (by omega), hsucc]
      refine Sub.of_lists ?_ ?_ ?_ ?_ <;> simp [subT, subO, onlyT, onlyO, isIn, look_cons, lookO_cons, lookO_nil, AV.only, AV.onlys, AO.only, onlys_map, onlys_append, e_only, e_int, e_bool]
    · exfalso
      have : (i : Int) = p := by simpa using h
      omega
end Go.Proofs.Ytkjkbpgdpnapfaa

/-
  THE LAW MarkGives BY CONTRACT.
-/
namespace Go.Proofs.Ytkjkbpgdpnapfaa
open Go Go.Abs
open Go.Abs.Enc (enc)
theorem sameM_refl (m : Marks) : sameM m m = true := by simp [sameM, sameG]
theorem F10 (m : Marks) (g : Given) (o : Int) : Ctr Try.prog 10 [enc m, enc g, enc o] (enc true) := by
  refine Ctr.mk' Try.func10 ca10 cc10 cr10 (Nat.le_of_ble_eq_true rfl) (fun hwf W0 D0 E1 => ?_)
  simp only [c10, r10, idx, Nat.zero_add, Nat.reduceAdd]
  refine AW.seq (AW.reg cd10_0 fun K hK => ?_)
  simp only [g10_0, bR, Nat.reduceEqDiff, reduceIte, Int.reduceBNe, Int.reduceBEq]
  simp only [e_isVal, bR, Nat.reduceEqDiff, reduceIte, Int.reduceBNe, Int.reduceBEq]
  refine .done (hK _ ?_); clear hK K; simp only [thenQ, blockQ]
  refine AW.seq (AW.reg cd10_1 fun K hK => ?_)
  simp only [g10_1, bR, Nat.reduceEqDiff, reduceIte, Int.reduceBNe, Int.reduceBEq]
  try simp only [typR, useR, okR, e_fin, bR, Nat.reduceEqDiff, reduceIte, Int.reduceBNe, Int.reduceBEq]
  refine .lead _ (F55 m) ?_
  simp only [typR, e_a6, stR3_6, bR, Nat.reduceEqDiff, reduceIte, Int.reduceBNe, Int.reduceBEq]
  refine .done (hK _ ?_); clear hK K; simp only [thenQ, blockQ]
  refine AW.seq (AW.reg cd10_2 fun K hK => ?_)
  simp only [g10_2, bR, Nat.reduceEqDiff, reduceIte, Int.reduceBNe, Int.reduceBEq]
  try simp only [typR, useR, okR, e_fin, bR, Nat.reduceEqDiff, reduceIte, Int.reduceBNe, Int.reduceBEq]
  refine .lead _ (F56 m) ?_
  simp only [typR, e_a6, stR3_6, bR, Nat.reduceEqDiff, reduceIte, Int.reduceBNe, Int.reduceBEq]
  refine .done (hK _ ?_); clear hK K; simp only [thenQ, blockQ]
  generalize nextOf m = nx
  obtain ⟨n1, n2⟩ := nx
  refine AW.seq (AW.reg cd10_3 fun K hK => ?_)
  simp only [g10_3, bR, Nat.reduceEqDiff, reduceIte, Int.reduceBNe, Int.reduceBEq]
  try simp only [typR, useR, okR, e_fin, bR, Nat.reduceEqDiff, reduceIte, Int.reduceBNe, Int.reduceBEq]
  refine .lead _ (F57 m o) ?_
  simp only [typR, bR, Nat.reduceEqDiff, reduceIte, Int.reduceBNe, Int.reduceBEq]
  rw [stR3_ok (e_isVal _) (by rw [e_okS]; rfl) ((e_sh _).trans rfl)]
  simp only [setAt_nil, bR, Nat.reduceEqDiff, reduceIte, Int.reduceBNe, Int.reduceBEq]
  refine .done (hK _ ?_); clear hK K; simp only [thenQ, blockQ]
  refine AW.seq (AW.reg cd10_4 fun K hK => ?_)
  simp only [g10_4, bR, Nat.reduceEqDiff, reduceIte, Int.reduceBNe, Int.reduceBEq]
  try simp only [typR, useR, okR, e_fin, bR, Nat.reduceEqDiff, reduceIte, Int.reduceBNe, Int.reduceBEq]
  refine .lead _ (F58 m o) ?_
  simp only [typR, bR, Nat.reduceEqDiff, reduceIte, Int.reduceBNe, Int.reduceBEq]
  rw [stR3_ok (e_isVal _) (by rw [e_okS]; rfl) ((e_sh _).trans rfl)]
  simp only [setAt_nil, bR, Nat.reduceEqDiff, reduceIte, Int.reduceBNe, Int.reduceBEq]
  refine .done (hK _ ?_); clear hK K; simp only [thenQ, blockQ]
  generalize giveR m o = x
  obtain ⟨x1, x2⟩ := x
  refine AW.seq (AW.reg cd10_5 fun K hK => ?_)
  simp only [g10_5, bR, Nat.reduceEqDiff, reduceIte, Int.reduceBNe, Int.reduceBEq]
  try simp only [typR, useR, okR, e_fin, bR, Nat.reduceEqDiff, reduceIte, Int.reduceBNe, Int.reduceBEq]
  refine .lead _ (F59 m g) ?_
  simp only [typR, bR, Nat.reduceEqDiff, reduceIte, Int.reduceBNe, Int.reduceBEq]
  rw [stR3_ok (e_isVal _) (by rw [e_okS]; rfl) ((e_sh _).trans rfl)]
  simp only [setAt_nil, bR, Nat.reduceEqDiff, reduceIte, Int.reduceBNe, Int.reduceBEq]
  refine .done (hK _ ?_); clear hK K; simp only [thenQ, blockQ]
  refine AW.seq (AW.reg cd10_6 fun K hK => ?_)
  simp only [g10_6, bR, Nat.reduceEqDiff, reduceIte, Int.reduceBNe, Int.reduceBEq]
  try simp only [typR, useR, okR, e_fin, bR, Nat.reduceEqDiff, reduceIte, Int.reduceBNe, Int.reduceBEq]
  refine .lead _ (F60 m g) ?_
  simp only [typR, bR, Nat.reduceEqDiff, reduceIte, Int.reduceBNe, Int.reduceBEq]
  rw [stR3_ok (e_isVal _) (by rw [e_okS]; rfl) ((e_sh _).trans rfl)]
  simp only [setAt_nil, bR, Nat.reduceEqDiff, reduceIte, Int.reduceBNe, Int.reduceBEq]
  refine .done (hK _ ?_); clear hK K; simp only [thenQ, blockQ]
  generalize addR m g = y
  obtain ⟨y1, y2⟩ := y
  refine AW.seq (AW.reg cd10_7 fun K hK => ?_)
  simp only [g10_7, bR, Nat.reduceEqDiff, reduceIte, Int.reduceBNe, Int.reduceBEq]
  try simp only [typR, useR, okR, e_fin, bR, Nat.reduceEqDiff, reduceIte, Int.reduceBNe, Int.reduceBEq]
  refine .lead _ (F61 m o) ?_
  simp only [typR, bR, Nat.reduceEqDiff, reduceIte, Int.reduceBNe, Int.reduceBEq]
  rw [stR3_ok (e_isVal _) (by rw [e_okS]; rfl) ((e_sh _).trans rfl)]
  simp only [setAt_nil, bR, Nat.reduceEqDiff, reduceIte, Int.reduceBNe, Int.reduceBEq]
  refine .done (hK _ ?_); clear hK K; simp only [thenQ, blockQ]
  refine AW.seq (AW.reg cd10_8 fun K hK => ?_)
  simp only [g10_8, bR, Nat.reduceEqDiff, reduceIte, Int.reduceBNe, Int.reduceBEq]
  try simp only [typR, useR, okR, e_fin, bR, Nat.reduceEqDiff, reduceIte, Int.reduceBNe, Int.reduceBEq]
  refine .lead _ (F62 m o) ?_
  simp only [typR, bR, Nat.reduceEqDiff, reduceIte, Int.reduceBNe, Int.reduceBEq]
  rw [stR3_ok (e_isVal _) (by rw [e_okS]; rfl) ((e_sh _).trans rfl)]
  simp only [setAt_nil, bR, Nat.reduceEqDiff, reduceIte, Int.reduceBNe, Int.reduceBEq]
  refine .done (hK _ ?_); clear hK K; simp only [thenQ, blockQ]
  generalize takeR m o = z
  obtain ⟨z1, z2⟩ := z
  refine AW.seq (AW.reg cd10_9 fun K hK => ?_)
  simp only [g10_9, bR, Nat.reduceEqDiff, reduceIte, Int.reduceBNe, Int.reduceBEq]
  simp only [typR, useR, okR, e_fin, eqE_arr, decide_true, BEq.rfl, bR, Nat.reduceEqDiff, reduceIte, Int.reduceBNe, Int.reduceBEq]
  refine .flat _ (F63 x1 x1) rfl ?_
  simp only [typR, useR, okR, e_fin, sameM_refl, BEq.rfl, bR, Nat.reduceEqDiff, reduceIte, Int.reduceBNe, Int.reduceBEq]
  refine .flat _ (F63 y1 y1) rfl ?_
  simp only [typR, useR, okR, e_fin, sameM_refl, BEq.rfl, bR, Nat.reduceEqDiff, reduceIte, Int.reduceBNe, Int.reduceBEq]
  refine .flat _ (F63 z1 z1) rfl ?_
  simp only [typR, useR, okR, e_fin, sameM_refl, BEq.rfl, bR, Nat.reduceEqDiff, reduceIte, Int.reduceBNe, Int.reduceBEq]
  refine .flat _ F21 rfl ?_
  try simp only [typR, useR, okR, e_fin, bR, Nat.reduceEqDiff, reduceIte, Int.reduceBNe, Int.reduceBEq]
  refine .done (hK _ ?_); clear hK K; simp only [thenQ, blockQ]
  refine AW.ret ?_
  simp only [blockQ, thenQ, bR, Nat.reduceEqDiff, reduceIte, Int.reduceBNe, Int.reduceBEq]
end Go.Proofs.Ytkjkbpgdpnapfaa

/-
  THE LAWS' ARGUMENTS, TAKEN AS DATA: the types of the statements.
-/
namespace Go.Proofs.Ytkjkbpgdpnapfaa
open Go Go.Abs Go.ChangeShapes Go.WideShapes Go.RowKit
open Go.Abs.Enc (enc)
theorem Try.own : ownKnob Try.prog.godebug = none := by kernel_rfl
theorem Try.laidOut : laidOutB Try.prog = true := by kernel_rfl
theorem oInt : Opens Try.prog 3 Int := opens_int (by kernel_rfl) (by kernel_rfl)
theorem oWear : Opens Try.prog 23 (Arr 5 Int) := opens_arr (isAr_spec (by kernel_rfl)) oInt (by kernel_rfl) (by decide)
theorem oMark : Opens Try.prog 41 (Arr 6 Int) := opens_arr (isAr_spec (by kernel_rfl)) oInt (by kernel_rfl) (by decide)
theorem oGiven : Opens Try.prog 43 Given := ⟨by kernel_rfl, by decide, fun h => by
  obtain ⟨a, b, hab⟩ := opens_st2 (α := Int) (β := Arr 6 Int) (u0 := 3) (u1 := 41) (by kernel_rfl) oInt oMark (by kernel_rfl) h
  exact ⟨⟨a, b⟩, hab⟩⟩
theorem oGivens : Opens Try.prog 24 (List Given) := opens_list (by kernel_rfl) oGiven (by kernel_rfl)
theorem oMarks : Opens Try.prog 26 Marks := ⟨by kernel_rfl, by decide, fun h => by
  obtain ⟨a, b, c, hab⟩ := opens_st3 (α := Arr 5 Int) (β := Int) (γ := List Given) (u0 := 23) (u1 := 3) (u2 := 24) (by kernel_rfl) oWear oInt oGivens (by kernel_rfl) h
  exact ⟨⟨a, b, c⟩, hab⟩⟩
theorem rvs3 {w : World} {D : Dom} {E : Env} {x y z : AV} {a b c : Value} (hx : ∃ cs, isPack x a cs ∧ rc w D E x cs) (hy : ∃ cs, isPack y b cs ∧ rc w D E y cs) (hz : ∃ cs, isPack z c cs ∧ rc w D E z cs) : rvs w D E [x, y, z] [a, b, c] := by
  obtain ⟨c1, h1, h2⟩ := hx
  obtain ⟨c2, h3, h4⟩ := hy
  obtain ⟨c3, h5, h6⟩ := hz
  simp only [rvs]
  exact ⟨a, [b, c], c1, rfl, h1, h2, b, [c], c2, rfl, h3, h4, c, [], c3, rfl, h5, h6, rfl⟩
end Go.Proofs.Ytkjkbpgdpnapfaa

/-
  PROVED HERE: the law MarkGives returns true for every input, and each argument reads afterwards as it read before. Conditions: none beyond the statement's own.
-/
namespace Go.Proofs.Ytkjkbpgdpnapfaa
open Go Go.Abs Go.ChangeShapes Go.WideShapes Go.ChangeAt Go.RowKit
open Go.Abs.Enc (enc)
set_option maxRecDepth 100000 in
theorem markGives_lifted (os : Os) (started : os.Started) (H : Type) (enc0 : TypeId × Value → H) :
    ReturnsInHanded {} Try.checked os 10 .any (Rows.markGivesSpec.pre6 enc0 Try.prog Try.f10 Rows.markGivesRow.domain false) (Rows.markGivesSpec.post enc0 Try.prog Try.f10 false true false false) := by
  refine returnsInHanded_of_change (C := Try.checked) Try.own started (by kernel_rfl) Try.func10
    (ChangeSpec.witness6 (enc := enc0) (C := Try.checked) false ⟨#[], #[.agg #[.int .i64 0, .int .i64 0, .int .i64 0, .int .i64 0, .int .i64 0, .int .i64 0, .slice none 0 0], .agg #[.int .i64 0, .int .i64 0, .int .i64 0, .int .i64 0, .int .i64 0, .int .i64 0, .int .i64 0], .int .i64 0], []⟩ 8 (by kernel_rfl) (by kernel_rfl) (by kernel_rfl) (by kernel_rfl)) ?_
  intro W base args ds gs before hval0 hW hcnd _
  have hval : ∀ (j : Nat) t v, Try.f10.params[j]? = some t → args[j]? = some v → Value.okWide Try.prog W .any base t v := hval0
  have hW' := hW
  obtain ⟨p, q, hA0, hV, hbef, hfz, hnd⟩ := hW
  have hA : DataW.TrodAll enc0 Try.prog W 0 (fun _ => true) true Try.f10.params.toList args.toList ds p := hA0
  rw [Try.params10] at hA hval
  obtain ⟨v0, v1, v2, d0, d1, d2, p0, p1, p2, rfl, rfl, rfl, h0, h1, h2⟩ := trodAll_three hA
  obtain ⟨rfl, rfl⟩ := trodVars_none hV
  obtain ⟨a0, c0, k0⟩ := open_arg oMarks rfl (by kernel_rfl) (hval 0 26 v0 rfl rfl) h0
  obtain ⟨a1, c1, k1⟩ := open_arg oGiven rfl (by kernel_rfl) (hval 1 43 v1 rfl rfl) h1
  obtain ⟨a2, c2, k2⟩ := open_cell oInt rfl (by kernel_rfl) (hval 2 3 v2 rfl rfl) h2
  exact law_post (tb := 4) Try.laidOut (by rw [Try.params10]) rfl rfl (by rw [hbef]; simp) rfl rfl (by kernel_rfl) (by kernel_rfl) hW' h0 h1 h2 (by
    intro t ht
    simp only [List.mem_cons, List.mem_nil_iff, or_false] at ht
    rcases ht with rfl | rfl | rfl <;> exact ⟨by kernel_rfl, of_decide_eq_true (by kernel_rfl)⟩) (F10 a0 a1 a2) (rvs3 ⟨c0, k0⟩ ⟨c1, k1⟩ ⟨c2, k2⟩)
theorem markGives_holds : Rows.MarkGivesSaid :=
  OpenClaim.holds_of_wide 10 Try.f10 rfl rfl rfl rfl rfl rfl rfl ⟨rfl, rfl, rfl, rfl, rfl⟩ rfl rfl rfl rfl rfl (by kernel_rfl) Try.func10 (by kernel_rfl)
    (of_decide_eq_true (by kernel_rfl)) (by unfold Func.isWrapper; first | (rw [if_pos (by decide +kernel)]; kernel_rfl) | (rw [if_neg (by decide +kernel)]; exact ⟨rfl, rfl⟩))
    (fun os started H enc0 _ => markGives_lifted os started H enc0)
#print axioms markGives_holds
end Go.Proofs.Ytkjkbpgdpnapfaa

