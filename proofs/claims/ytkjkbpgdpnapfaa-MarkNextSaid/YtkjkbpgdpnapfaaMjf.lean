/-
  FUNCTIONS OF mark BY CONTRACT: Look.
-/
import Derived.Test.YtkjkbpgdpnapfaaRows
import Derived.Test.YtkjkbpgdpnapfaaMje
set_option linter.unusedSimpArgs false
set_option linter.unusedVariables false
namespace Go.Proofs.Ytkjkbpgdpnapfaa
open Go Go.Abs
open Go.Abs.Enc (enc)
def bitsOf (s : Nat) : Nat → List Int
  | 0 => []
  | i + 1 => bitsOf s i ++ if hasB s i then [(i : Int)] else []
theorem bitsOf_le (s : Nat) : ∀ i, (bitsOf s i).length ≤ i
  | 0 => Nat.le_refl _
  | i + 1 => by
    have := bitsOf_le s i
    simp only [bitsOf, List.length_append]
    split <;> simp <;> omega
theorem bitsOf_in (s : Nat) : ∀ i, i ≤ 6 → ∀ k ∈ bitsOf s i, 0 ≤ k ∧ k < 6
  | 0, _ => by simp [bitsOf]
  | i + 1, h => by
    intro k hk
    simp only [bitsOf, List.mem_append] at hk
    rcases hk with hk | hk
    · exact bitsOf_in s i (by omega) k hk
    · split at hk
      · simp only [List.mem_singleton] at hk; omega
      · cases hk
def better (found : Bool) (best set : List Int) : Bool := (!found || decide ((set.length : Int) < best.length)) || (((set.length : Int) == best.length) && decide (cmpL set best < 0))
def lookStep (w : Arr 5 Int) (poss : List Given) (p : List Int × Bool) (s : Nat) : List Int × Bool := if better p.2 p.1 (bitsOf s 6) && settled w poss (bitsOf s 6) then (bitsOf s 6, true) else p
def lookUp (w : Arr 5 Int) (poss : List Given) : Nat → List Int × Bool
  | 0 => ([], false)
  | s + 1 => lookStep w poss (lookUp w poss s) s
def lookOf (m : Marks) (r : Arr 6 Int) : List Int × Int := if okM m then (if okReading r then ((lookUp m.wear (possG m r) 64).1, 0) else ([], 12)) else ([], 13)
theorem lookUp_le (w : Arr 5 Int) (poss : List Given) : ∀ s, (lookUp w poss s).1.length ≤ 6
  | 0 => by simp [lookUp]
  | s + 1 => by
    have := lookUp_le w poss s
    have h2 := bitsOf_le s 6
    simp only [lookUp, lookStep]
    split
    · exact h2
    · exact this
theorem possG_mem {m : Marks} {r : Arr 6 Int} {g : Given} (h : g ∈ possG m r) : g ∈ m.given := (List.mem_filter.1 h).1
theorem F12 (m : Marks) (r : Arr 6 Int) : Ctr Try.prog 12 [enc m, enc r] (.tuple [enc (lookOf m r).1, enc (lookOf m r).2]) := by
  refine Ctr.mk' Try.func12 ca12 cc12 cr12 (Nat.le_of_ble_eq_true rfl) (fun hwf W0 D0 E1 => ?_)
  simp only [c12, r12, idx, Nat.zero_add, Nat.reduceAdd]
  refine AW.seq (AW.reg cd12_0 fun K hK => ?_)
  simp only [g12_0, bR, Nat.reduceEqDiff, reduceIte, Int.reduceBNe, Int.reduceBEq]
  simp only [e_isVal, bR, Nat.reduceEqDiff, reduceIte, Int.reduceBNe, Int.reduceBEq]
  refine .done (hK _ ?_); clear hK K; simp only [thenQ, blockQ]
  refine AW.seq ?_
  refine AW.seq (AW.reg cd12_1 fun K hK => ?_)
  simp only [g12_1, bR, Nat.reduceEqDiff, reduceIte, Int.reduceBNe, Int.reduceBEq]
  simp only [typR, useR, okR, e_fin, bR, Nat.reduceEqDiff, reduceIte, Int.reduceBNe, Int.reduceBEq]
  refine .flat _ (F47 m) rfl ?_
  simp only [typR, useR, okR, e_fin, bR, Nat.reduceEqDiff, reduceIte, Int.reduceBNe, Int.reduceBEq]
  refine .flat _ (F45 r) rfl ?_
  simp only [typR, useR, okR, e_fin, bs2, bR, Nat.reduceEqDiff, reduceIte, Int.reduceBNe, Int.reduceBEq]
  refine .flat _ (F64 _) rfl ?_
  rw [first2 _ _ 13 12 (by decide) (by decide)]
  simp only [bR, Nat.reduceEqDiff, reduceIte, Int.reduceBNe, Int.reduceBEq]
  refine .done (hK _ ?_); clear hK K; simp only [thenQ, blockQ]
  generalize hw : okM m = bw
  generalize hr : okReading r = br
  cases bw
  · refine AW.seq (AW.reg cd12_2 fun K hK => ?_)
    simp only [g12_2, bR, Nat.reduceEqDiff, reduceIte, Int.reduceBNe, Int.reduceBEq]
    refine .done (hK _ ?_); clear hK K; simp only [thenQ, blockQ]
    refine AW.ite ?_
    simp only [condQ, bR, Nat.reduceEqDiff, reduceIte, Int.reduceBNe, Int.reduceBEq]
    refine ⟨fun h => ?_, fun h => ?_⟩
    · refine AW.seq (AW.reg cd12_3 fun K hK => ?_)
      simp only [g12_3, bR, Nat.reduceEqDiff, reduceIte, Int.reduceBNe, Int.reduceBEq]
      refine .done (hK _ ?_); clear hK K; simp only [thenQ, blockQ]
      refine AW.ret ?_
      simp only [blockQ, thenQ, bR, Nat.reduceEqDiff, reduceIte, Int.reduceBNe, Int.reduceBEq]
      simp [lookOf, hw, nilInt]
    · cases h
  cases br
  · refine AW.seq (AW.reg cd12_2 fun K hK => ?_)
    simp only [g12_2, bR, Nat.reduceEqDiff, reduceIte, Int.reduceBNe, Int.reduceBEq]
    refine .done (hK _ ?_); clear hK K; simp only [thenQ, blockQ]
    refine AW.ite ?_
    simp only [condQ, bR, Nat.reduceEqDiff, reduceIte, Int.reduceBNe, Int.reduceBEq]
    refine ⟨fun h => ?_, fun h => ?_⟩
    · refine AW.seq (AW.reg cd12_3 fun K hK => ?_)
      simp only [g12_3, bR, Nat.reduceEqDiff, reduceIte, Int.reduceBNe, Int.reduceBEq]
      refine .done (hK _ ?_); clear hK K; simp only [thenQ, blockQ]
      refine AW.ret ?_
      simp only [blockQ, thenQ, bR, Nat.reduceEqDiff, reduceIte, Int.reduceBNe, Int.reduceBEq]
      simp [lookOf, hw, hr, nilInt]
    · cases h
  refine AW.seq (AW.reg cd12_2 fun K hK => ?_)
  simp only [g12_2, bR, Nat.reduceEqDiff, reduceIte, Int.reduceBNe, Int.reduceBEq]
  refine .done (hK _ ?_); clear hK K; simp only [thenQ, blockQ]
  refine AW.ite ?_
  simp only [condQ, bR, Nat.reduceEqDiff, reduceIte, Int.reduceBNe, Int.reduceBEq]
  refine ⟨fun h => ?_, fun h => ?_⟩
  · cases h
  refine AW.skip ?_; simp only [thenQ, blockQ, reduceIte, Nat.reduceEqDiff]
  have hlen : m.given.length ≤ 1000 := by have := okM_len hw; omega
  have hpl : (possG m r).length ≤ 1000 := Nat.le_trans (List.length_filter_le _ _) hlen
  have hpm : ∀ g ∈ possG m r, okMark g.mark = true := fun g hg => okM_mark hw g (possG_mem hg)
  obtain ⟨poss, hposs⟩ : ∃ poss, poss = possG m r := ⟨_, rfl⟩
  -- what follows, from the possible ones on
  have key : ∀ c : Ctx, c = ⟨Try.prog, W0, D0, Try.f12.ntmps, ownE E1, E1, noY, none⟩ → AW c (.seq (.reg d12_5 g12_5) (.seq (.reg d12_6 g12_6) (.seq (.seq (.reg d12_7 g12_7) (.block 0 (.loop (.seq (.reg d12_8 g12_8) (.seq (.cond (.t 27) .skip (.exit 0)) (.seq (.block 1 (.seq (.reg d12_9 g12_9) (.seq (.reg d12_10 g12_10) (.seq (.seq (.reg d12_11 g12_11) (.block 2 (.loop (.seq (.reg d12_12 g12_12) (.seq (.cond (.t 30) .skip (.exit 2)) (.seq (.block 3 (.seq (.reg d12_13 g12_13) (.seq (.reg d12_14 g12_14) (.cond (.t 36) (.reg d12_15 g12_15) .skip)))) (.reg d12_16 g12_16))))))) (.seq (.reg d12_17 g12_17) (.seq (.reg d12_18 g12_18) (.cond (.t 71) (.reg d12_19 g12_19) .skip))))))) (.reg d12_20 g12_20))))))) (.seq (.reg d12_21 g12_21) .ret))))
      (retQ [.tmp 4, .tmp 5] (.tuple [enc (lookOf m r).1, enc (lookOf m r).2])) (mkA [(2, .ptr 2 []), (3, .ptr 3 []), (7, enc poss)] [(2, .box (enc m)), (3, .box (enc r))]) := by
    rintro c rfl
    refine AW.seq (AW.reg cd12_5 fun K hK => ?_)
    simp only [g12_5, bR, Nat.reduceEqDiff, reduceIte, Int.reduceBNe, Int.reduceBEq]
    refine .done (hK _ ?_); clear hK K; simp only [thenQ, blockQ]
    refine AW.seq (AW.reg cd12_6 fun K hK => ?_)
    simp only [g12_6, bR, Nat.reduceEqDiff, reduceIte, Int.reduceBNe, Int.reduceBEq]
    refine .done (hK _ ?_); clear hK K; simp only [thenQ, blockQ]
    refine AW.seq ?_
    refine AW.seq (AW.reg cd12_7 fun K hK => ?_)
    simp only [g12_7, bR, Nat.reduceEqDiff, reduceIte, Int.reduceBNe, Int.reduceBEq]
    refine .done (hK _ ?_); clear hK K; simp only [thenQ, blockQ]
    refine AW.block (AW.loop (fun s : Nat => mkA [(2, .ptr 2 []), (3, .ptr 3 []), (7, enc poss), (8, enc (lookUp m.wear poss s).1), (9, .bool (lookUp m.wear poss s).2), (26, .int .i64 s)] [(2, .box (enc m)), (3, .box (enc r))]) (fun s => s ≤ 64) (fun s => 64 - s) 0 (by omega) ?_ (fun s hs => ?_))
    · simp only [lookUp]
      refine Sub.freeL (y := .slice 1 []) [] 8 rfl rfl ?_ ?_ ?_ ?_ ?_
      · simp [dropO, onlyO, AO.only, e_only]
      · simp [subT, fgt, look_cons, AV.only, e_only]; rfl
      · simp [subO, dropO, lookO_cons]
      · simp [onlyT, isIn, lookO_cons, AV.only, e_only]
      · simp [onlyO, AO.only, e_only]
    obtain ⟨best, hbest⟩ : ∃ best, (lookUp m.wear poss s).1 = best := ⟨_, rfl⟩
    obtain ⟨found, hfound⟩ : ∃ found, (lookUp m.wear poss s).2 = found := ⟨_, rfl⟩
    have hlu : lookUp m.wear poss s = (best, found) := by rw [← hbest, ← hfound]
    have hbl : best.length ≤ 6 := by rw [← hbest]; exact lookUp_le _ _ _
    rw [hbest, hfound]
    refine AW.seq (AW.reg cd12_8 fun K hK => ?_)
    simp only [g12_8, bR, Nat.reduceEqDiff, reduceIte, Int.reduceBNe, Int.reduceBEq]
    refine .done (hK _ ?_); clear hK K; simp only [thenQ, blockQ]
    refine AW.seq ?_
    refine AW.ite ?_
    simp only [condQ, bR, Nat.reduceEqDiff, reduceIte, Int.reduceBNe, Int.reduceBEq]
    refine ⟨fun h => ?_, fun h => ?_⟩
    case refine_2.refine_2 =>
      have hge : s = 64 := by simp at h; omega
      subst hge
      refine AW.exit ?_; simp only [thenQ, blockQ, reduceIte, Nat.reduceEqDiff]
      refine AW.seq (AW.reg cd12_21 fun K hK => ?_)
      simp only [g12_21, bR, Nat.reduceEqDiff, reduceIte, Int.reduceBNe, Int.reduceBEq]
      refine .done (hK _ ?_); clear hK K; simp only [thenQ, blockQ]
      refine AW.ret ?_
      simp only [blockQ, thenQ, bR, Nat.reduceEqDiff, reduceIte, Int.reduceBNe, Int.reduceBEq]
      simp only [e_fin, bR, Nat.reduceEqDiff, reduceIte, Int.reduceBNe, Int.reduceBEq]
      simp [lookOf, hw, hr, hlu, ← hposs, e_int]
    have hlt : s < 64 := by simp at h; omega
    refine AW.skip ?_; simp only [thenQ, blockQ, reduceIte, Nat.reduceEqDiff]
    refine AW.seq (AW.block ?_)
    refine AW.seq (AW.reg cd12_9 fun K hK => ?_)
    simp only [g12_9, bR, Nat.reduceEqDiff, reduceIte, Int.reduceBNe, Int.reduceBEq]
    refine .done (hK _ ?_); clear hK K; simp only [thenQ, blockQ]
    refine AW.seq (AW.reg cd12_10 fun K hK => ?_)
    simp only [g12_10, bR, Nat.reduceEqDiff, reduceIte, Int.reduceBNe, Int.reduceBEq]
    refine .done (hK _ ?_); clear hK K; simp only [thenQ, blockQ]
    refine AW.seq ?_
    refine AW.seq (AW.reg cd12_11 fun K hK => ?_)
    simp only [g12_11, bR, Nat.reduceEqDiff, reduceIte, Int.reduceBNe, Int.reduceBEq]
    refine .done (hK _ ?_); clear hK K; simp only [thenQ, blockQ]
    refine AW.block (AW.loop (fun i : Nat => mkA [(2, .ptr 2 []), (3, .ptr 3 []), (7, enc poss), (8, enc best), (9, .bool found), (10, .int .i64 s), (26, .int .i64 s), (11, .own 11 (bitsOf s i).length), (29, .int .i64 i)] [(11, .row 3 1 ((bitsOf s i).map enc)), (2, .box (enc m)), (3, .box (enc r))]) (fun i => i ≤ 6) (fun i => 6 - i) 0 (by omega) ?_ (fun i hi => ?_))
    · refine Sub.adoptL 11 11 3 1 1 ?_ ?_ ?_
      · simp only [absR, Nat.reduceEqDiff, reduceIte]
      · simp only [absR, Nat.reduceEqDiff, reduceIte]
      · simp only [bitsOf, List.map_nil, List.length_nil]
        refine Sub.of_lists ?_ ?_ ?_ ?_ <;> simp [subT, subO, onlyT, onlyO, isIn, look_cons, lookO_cons, lookO_nil, AV.only, AV.onlys, AO.only, onlys_map, onlys_append, e_only, e_int, e_bool]
    refine AW.seq (AW.reg cd12_12 fun K hK => ?_)
    simp only [g12_12, bR, Nat.reduceEqDiff, reduceIte, Int.reduceBNe, Int.reduceBEq]
    refine .done (hK _ ?_); clear hK K; simp only [thenQ, blockQ]
    refine AW.seq ?_
    refine AW.ite ?_
    simp only [condQ, bR, Nat.reduceEqDiff, reduceIte, Int.reduceBNe, Int.reduceBEq]
    refine ⟨fun h => ?_, fun h => ?_⟩
    · have hi6 : i < 6 := by simp at h; omega
      have hml := bitsOf_le s i
      refine AW.skip ?_; simp only [thenQ, blockQ, reduceIte, Nat.reduceEqDiff]
      refine AW.seq (AW.block ?_)
      refine AW.seq (AW.reg cd12_13 fun K hK => ?_)
      simp only [g12_13, bR, Nat.reduceEqDiff, reduceIte, Int.reduceBNe, Int.reduceBEq]
      refine .done (hK _ ?_); clear hK K; simp only [thenQ, blockQ]
      refine AW.seq (AW.reg cd12_14 fun K hK => ?_)
      simp only [g12_14, bR, Nat.reduceEqDiff, reduceIte, Int.reduceBNe, Int.reduceBEq]
      refine .done (hK _ ?_); clear hK K; simp only [thenQ, blockQ]
      refine AW.ite ?_
      simp only [condQ, bR, Nat.reduceEqDiff, reduceIte, Int.reduceBNe, Int.reduceBEq]
      refine ⟨fun h => ?_, fun h => ?_⟩
      · have hb : hasB s i = true := h
        refine AW.reg cd12_15 fun K hK => ?_
        simp only [g12_15, bR, Nat.reduceEqDiff, reduceIte, Int.reduceBNe, Int.reduceBEq]
        rw [appR3_enc 3 1 8 11 rfl rfl (by simp) (by simp [maxLen]; omega) (by simp; omega)]
        simp only [bR, Nat.reduceEqDiff, reduceIte, Int.reduceBNe, Int.reduceBEq]
        refine .done (hK _ ?_); clear hK K; simp only [thenQ, blockQ]
        refine AW.reg cd12_16 fun K hK => ?_
        simp only [g12_16, bR, Nat.reduceEqDiff, reduceIte, Int.reduceBNe, Int.reduceBEq]
        refine .done (hK _ ?_); clear hK K; simp only [thenQ, blockQ]
        refine ⟨i + 1, by omega, by omega, ?_⟩
        rw [wrap_id _ (by omega) (by omega)]
        simp only [bitsOf, hb, reduceIte]
        refine Sub.of_lists ?_ ?_ ?_ ?_ <;> simp [subT, subO, onlyT, onlyO, isIn, look_cons, lookO_cons, lookO_nil, AV.only, AV.onlys, AO.only, onlys_map, onlys_append, e_only, e_int, e_bool]
      · have hb : hasB s i = false := h
        refine AW.skip ?_; simp only [thenQ, blockQ, reduceIte, Nat.reduceEqDiff]
        refine AW.reg cd12_16 fun K hK => ?_
        simp only [g12_16, bR, Nat.reduceEqDiff, reduceIte, Int.reduceBNe, Int.reduceBEq]
        refine .done (hK _ ?_); clear hK K; simp only [thenQ, blockQ]
        refine ⟨i + 1, by omega, by omega, ?_⟩
        rw [wrap_id _ (by omega) (by omega)]
        simp only [bitsOf, hb, reduceIte, Bool.false_eq_true, List.append_nil]
        refine Sub.of_lists ?_ ?_ ?_ ?_ <;> simp [subT, subO, onlyT, onlyO, isIn, look_cons, lookO_cons, lookO_nil, AV.only, AV.onlys, AO.only, onlys_map, onlys_append, e_only, e_int, e_bool]
    have hi6 : i = 6 := by simp at h; omega
    subst hi6
    refine AW.exit ?_; simp only [thenQ, blockQ, reduceIte, Nat.reduceEqDiff]
    have hset := bitsOf_in s 6 (Nat.le_refl _)
    have hsl := bitsOf_le s 6
    have hstep : lookUp m.wear poss (s + 1) = lookStep m.wear poss (best, found) s := by rw [lookUp, hlu]
    obtain ⟨set, hsetd⟩ : ∃ set, bitsOf s 6 = set := ⟨_, rfl⟩
    simp only [lookStep, hsetd] at hstep
    rw [hsetd] at hset hsl ⊢
    refine AW.sub (B := mkA [(2, .ptr 2 []), (3, .ptr 3 []), (7, enc poss), (8, enc best), (9, .bool found), (11, enc set), (26, .int .i64 s)] [(2, .box (enc m)), (3, .box (enc r))]) (Sub.freeL (y := enc set) [11] 11 (by simp only [bR, Nat.reduceEqDiff, reduceIte, Int.reduceBNe, Int.reduceBEq]; rfl) ?_ ?_ ?_ ?_ ?_ ?_) ?_
    · simp only [keepO, List.filter_cons, List.filter_nil, List.contains_cons, List.contains_nil, Nat.reduceBEq, Bool.or_false, Bool.or_true, Bool.true_or, BEq.rfl, bR, Nat.reduceEqDiff, reduceIte, Int.reduceBNe, Int.reduceBEq]
    · simp [dropO, onlyO, AO.only, e_only]
    · simp [subT, fgt, look_cons, AV.only, e_only]
    · simp [subO, dropO, lookO_cons]
    · simp [onlyT, isIn, lookO_cons, AV.only, e_only]
    · simp [onlyO, AO.only, e_only]
    refine AW.seq (AW.via (mkA [(13, .bool (better found best set)), (2, .ptr 2 []), (3, .ptr 3 []), (7, enc poss), (8, enc best), (9, .bool found), (11, enc set), (26, .int .i64 s)] [(2, .box (enc m)), (3, .box (enc r))]) ?_ fun B hB => ?_)
    · refine AW.reg cd12_17 fun K hK => ?_
      simp only [g12_17, bR, Nat.reduceEqDiff, reduceIte, Int.reduceBNe, Int.reduceBEq]
      cases found
      · try simp only [typR, useR, okR, e_fin, bR, Nat.reduceEqDiff, reduceIte, Int.reduceBNe, Int.reduceBEq]
        refine .done (hK _ ?_); clear hK K; simp only [thenQ, blockQ]
        simp only [better, Bool.not_false, Bool.true_or]
        refine Sub.of_lists ?_ ?_ ?_ ?_ <;> simp [subT, subO, onlyT, onlyO, isIn, look_cons, lookO_cons, lookO_nil, AV.only, AV.onlys, AO.only, onlys_map, onlys_append, e_only, e_int, e_bool]
      try simp only [typR, useR, okR, e_fin, bR, Nat.reduceEqDiff, reduceIte, Int.reduceBNe, Int.reduceBEq]
      generalize hb1 : decide ((set.length : Int) < best.length) = b1
      cases b1
      · try simp only [typR, useR, okR, e_fin, bR, Nat.reduceEqDiff, reduceIte, Int.reduceBNe, Int.reduceBEq]
        generalize hb2 : ((set.length : Int) == best.length) = b2
        cases b2
        · try simp only [typR, useR, okR, e_fin, bR, Nat.reduceEqDiff, reduceIte, Int.reduceBNe, Int.reduceBEq]
          refine .done (hK _ ?_); clear hK K; simp only [thenQ, blockQ]
          simp only [better, hb1, hb2, Bool.not_true, Bool.false_or, Bool.or_false, Bool.false_and]
          refine Sub.of_lists ?_ ?_ ?_ ?_ <;> simp [subT, subO, onlyT, onlyO, isIn, look_cons, lookO_cons, lookO_nil, AV.only, AV.onlys, AO.only, onlys_map, onlys_append, e_only, e_int, e_bool]
        try simp only [typR, useR, okR, e_fin, bR, Nat.reduceEqDiff, reduceIte, Int.reduceBNe, Int.reduceBEq]
        refine .flat _ (F66 set best) rfl ?_
        try simp only [typR, useR, okR, e_fin, bR, Nat.reduceEqDiff, reduceIte, Int.reduceBNe, Int.reduceBEq]
        refine .done (hK _ ?_); clear hK K; simp only [thenQ, blockQ]
        simp only [better, hb1, hb2, Bool.not_true, Bool.false_or, Bool.or_false, Bool.true_and]
        refine Sub.of_lists ?_ ?_ ?_ ?_ <;> simp [subT, subO, onlyT, onlyO, isIn, look_cons, lookO_cons, lookO_nil, AV.only, AV.onlys, AO.only, onlys_map, onlys_append, e_only, e_int, e_bool]
      · try simp only [typR, useR, okR, e_fin, bR, Nat.reduceEqDiff, reduceIte, Int.reduceBNe, Int.reduceBEq]
        refine .done (hK _ ?_); clear hK K; simp only [thenQ, blockQ]
        simp only [better, hb1, Bool.not_true, Bool.false_or, Bool.true_or]
        refine Sub.of_lists ?_ ?_ ?_ ?_ <;> simp [subT, subO, onlyT, onlyO, isIn, look_cons, lookO_cons, lookO_nil, AV.only, AV.onlys, AO.only, onlys_map, onlys_append, e_only, e_int, e_bool]
    simp only [thenQ, blockQ]
    refine AW.sub hB ?_
    generalize hbt : better found best set = bt at hstep
    refine AW.seq (AW.reg cd12_18 fun K hK => ?_)
    simp only [g12_18, bR, Nat.reduceEqDiff, reduceIte, Int.reduceBNe, Int.reduceBEq]
    cases bt
    · try simp only [typR, useR, okR, e_fin, bR, Nat.reduceEqDiff, reduceIte, Int.reduceBNe, Int.reduceBEq]
      refine .done (hK _ ?_); clear hK K; simp only [thenQ, blockQ]
      refine AW.ite ?_
      simp only [condQ, bR, Nat.reduceEqDiff, reduceIte, Int.reduceBNe, Int.reduceBEq]
      refine ⟨fun h => ?_, fun h => ?_⟩
      · cases h
      refine AW.skip ?_; simp only [thenQ, blockQ, reduceIte, Nat.reduceEqDiff]
      refine AW.reg cd12_20 fun K hK => ?_
      simp only [g12_20, bR, Nat.reduceEqDiff, reduceIte, Int.reduceBNe, Int.reduceBEq]
      refine .done (hK _ ?_); clear hK K; simp only [thenQ, blockQ]
      refine ⟨s + 1, by omega, by omega, ?_⟩
      rw [hstep, wrap_id _ (by omega) (by omega)]
      simp only [Bool.false_and, Bool.false_eq_true, if_false]
      refine Sub.of_lists ?_ ?_ ?_ ?_ <;> simp [subT, subO, onlyT, onlyO, isIn, look_cons, lookO_cons, lookO_nil, AV.only, AV.onlys, AO.only, onlys_map, onlys_append, e_only, e_int, e_bool]
    · try simp only [typR, useR, okR, e_fin, bR, Nat.reduceEqDiff, reduceIte, Int.reduceBNe, Int.reduceBEq]
      refine .flat _ (F67 m.wear poss set (by rw [hposs]; exact hpm) hset) rfl ?_
      try simp only [typR, useR, okR, e_fin, bR, Nat.reduceEqDiff, reduceIte, Int.reduceBNe, Int.reduceBEq]
      refine .done (hK _ ?_); clear hK K; simp only [thenQ, blockQ]
      refine AW.ite ?_
      simp only [condQ, bR, Nat.reduceEqDiff, reduceIte, Int.reduceBNe, Int.reduceBEq]
      refine ⟨fun h => ?_, fun h => ?_⟩
      · refine AW.reg cd12_19 fun K hK => ?_
        simp only [g12_19, bR, Nat.reduceEqDiff, reduceIte, Int.reduceBNe, Int.reduceBEq]
        refine .done (hK _ ?_); clear hK K; simp only [thenQ, blockQ]
        refine AW.reg cd12_20 fun K hK => ?_
        simp only [g12_20, bR, Nat.reduceEqDiff, reduceIte, Int.reduceBNe, Int.reduceBEq]
        refine .done (hK _ ?_); clear hK K; simp only [thenQ, blockQ]
        refine ⟨s + 1, by omega, by omega, ?_⟩
        rw [hstep, wrap_id _ (by omega) (by omega)]
        have h' : settled m.wear poss set = true := h
        simp only [h', Bool.true_and, if_true]
        refine Sub.of_lists ?_ ?_ ?_ ?_ <;> simp [subT, subO, onlyT, onlyO, isIn, look_cons, lookO_cons, lookO_nil, AV.only, AV.onlys, AO.only, onlys_map, onlys_append, e_only, e_int, e_bool]
      · refine AW.skip ?_; simp only [thenQ, blockQ, reduceIte, Nat.reduceEqDiff]
        refine AW.reg cd12_20 fun K hK => ?_
        simp only [g12_20, bR, Nat.reduceEqDiff, reduceIte, Int.reduceBNe, Int.reduceBEq]
        refine .done (hK _ ?_); clear hK K; simp only [thenQ, blockQ]
        refine ⟨s + 1, by omega, by omega, ?_⟩
        rw [hstep, wrap_id _ (by omega) (by omega)]
        have h' : settled m.wear poss set = false := h
        simp only [h', Bool.true_and, Bool.false_eq_true, if_false]
        refine Sub.of_lists ?_ ?_ ?_ ?_ <;> simp [subT, subO, onlyT, onlyO, isIn, look_cons, lookO_cons, lookO_nil, AV.only, AV.onlys, AO.only, onlys_map, onlys_append, e_only, e_int, e_bool]
  refine AW.seq (AW.reg cd12_4 fun K hK => ?_)
  simp only [g12_4, bR, Nat.reduceEqDiff, reduceIte, Int.reduceBNe, Int.reduceBEq]
  simp only [typR, useR, okR, e_fin, bR, Nat.reduceEqDiff, reduceIte, Int.reduceBNe, Int.reduceBEq]
  refine .obj false [(7, 25)] [] [enc m, enc r] (possPost 7 m r) rfl (F65 m r (okM_mark hw) hlen) Gvn.nil ⟨.inl ⟨(e_ren _ _).symm, e_only _ _, e_isVal _⟩, .inl ⟨(e_ren _ _).symm, e_only _ _, e_isVal _⟩, trivial⟩ ?_ ?_
  · rintro x os' (⟨_, rfl, rfl⟩ | ⟨k, rfl, rfl⟩)
    · exact Bck.nil (fun _ => rfl) (fun h => by cases h)
    · exact Bck.new1 (fun p => map_only p _) (fun h => by cases h) rfl (fun h => by cases h) rfl (by decide)
  · rintro x os' (⟨hp, rfl, rfl⟩ | ⟨k, rfl, rfl⟩)
    · simp only [e_ren, renR, List.nil_append, e_fin, bR, Nat.reduceEqDiff, reduceIte, Int.reduceBNe, Int.reduceBEq]
      refine .done (hK _ ?_); clear hK K; simp only [thenQ, blockQ]
      refine AW.sub ?_ (key _ rfl)
      rw [hposs, hp]
      refine Sub.of_lists ?_ ?_ ?_ ?_ <;> simp [subT, subO, onlyT, onlyO, isIn, look_cons, lookO_cons, lookO_nil, AV.only, AV.onlys, AO.only, onlys_map, onlys_append, e_only, e_int, e_bool]
    · simp only [rowG, renR, rens_map_enc, List.cons_append, List.nil_append, bR, Nat.reduceEqDiff, reduceIte, Int.reduceBNe, Int.reduceBEq]
      refine .done (hK _ ?_); clear hK K; simp only [thenQ, blockQ]
      refine AW.sub (Sub.freeL (y := enc poss) [25] 7 rfl ?_ ?_ ?_ ?_ ?_ ?_) (key _ rfl)
      · simp only [keepO, List.filter_cons, List.filter_nil, List.contains_cons, List.contains_nil, Nat.reduceBEq, Bool.or_false, Bool.or_true, Bool.true_or, BEq.rfl, finV_take (α := Given) (sz := 7) rfl, take_row, hposs, bR, Nat.reduceEqDiff, reduceIte, Int.reduceBNe, Int.reduceBEq]
      · simp [dropO, onlyO, AO.only, e_only]
      · simp [subT, fgt, look_cons, AV.only]
      · simp [subO, dropO, lookO_cons]
      · simp [onlyT, isIn, lookO_cons, AV.only, e_only]
      · simp [onlyO, AO.only, e_only]
end Go.Proofs.Ytkjkbpgdpnapfaa

/-
  FUNCTIONS OF mark BY CONTRACT: arePlaces, list.
-/
namespace Go.Proofs.Ytkjkbpgdpnapfaa
open Go Go.Abs
open Go.Abs.Enc (enc)
theorem F71 (l : List Int) : Ctr Try.prog 71 [enc l] (enc (okPlaces l)) := by
  refine Ctr.mk' Try.func71 ca71 cc71 cr71 (Nat.le_of_ble_eq_true rfl) (fun hwf W0 D0 E1 => ?_)
  simp only [c71, r71, idx, Nat.zero_add, Nat.reduceAdd]
  have hlen : l.length ≤ maxLen := ((wf_list l).1 hwf.1).1
  simp only [maxLen] at hlen
  refine AW.seq (AW.reg cd71_0 fun K hK => ?_)
  simp only [g71_0, bR, Nat.reduceEqDiff, reduceIte, Int.reduceBNe, Int.reduceBEq]
  refine .done (hK _ ?_); clear hK K; simp only [thenQ, blockQ]
  refine AW.seq ?_
  refine AW.seq (AW.reg cd71_1 fun K hK => ?_)
  simp only [g71_1, bR, Nat.reduceEqDiff, reduceIte, Int.reduceBNe, Int.reduceBEq]
  try simp only [typR, useR, okR, e_fin, bR, Nat.reduceEqDiff, reduceIte, Int.reduceBNe, Int.reduceBEq]
  refine .done (hK _ ?_); clear hK K; simp only [thenQ, blockQ]
  refine AW.block (AW.loop (fun i : Nat => mkA [(0, enc l), (5, enc l), (6, .int .i64 l.length), (7, .int .i64 i)] []) (fun i => i ≤ l.length ∧ ∀ j, j < i → placeAt l j = true) (fun i => l.length - i) 0 ⟨by omega, fun k h => by omega⟩ ?_ (fun i hi => ?_))
  · refine Sub.of_lists ?_ ?_ ?_ ?_ <;> simp [subT, subO, onlyT, onlyO, isIn, look_cons, lookO_cons, lookO_nil, AV.only, AV.onlys, AO.only, onlys_map, onlys_append, e_only, e_int, e_bool]
  refine AW.seq (AW.reg cd71_2 fun K hK => ?_)
  simp only [g71_2, bR, Nat.reduceEqDiff, reduceIte, Int.reduceBNe, Int.reduceBEq]
  refine .done (hK _ ?_); clear hK K; simp only [thenQ, blockQ]
  refine AW.seq ?_
  refine AW.ite ?_
  simp only [condQ, bR, Nat.reduceEqDiff, reduceIte, Int.reduceBNe, Int.reduceBEq]
  refine ⟨fun h => ?_, fun h => ?_⟩
  case refine_2.refine_2 =>
    have hge : i = l.length := by simp at h; omega
    subst hge
    refine AW.exit ?_; simp only [thenQ, blockQ, reduceIte, Nat.reduceEqDiff]
    refine AW.seq (AW.reg cd71_7 fun K hK => ?_)
    simp only [g71_7, bR, Nat.reduceEqDiff, reduceIte, Int.reduceBNe, Int.reduceBEq]
    refine .done (hK _ ?_); clear hK K; simp only [thenQ, blockQ]
    refine AW.ret ?_
    simp only [blockQ, thenQ, bR, Nat.reduceEqDiff, reduceIte, Int.reduceBNe, Int.reduceBEq]
    rw [okPlaces, all_true hi.2]
  have hlt : i < l.length := by simpa using h
  have bad : placeAt l i = false → okPlaces l = false := fun h => all_false i hlt h
  refine AW.skip ?_; simp only [thenQ, blockQ, reduceIte, Nat.reduceEqDiff]
  refine AW.seq (AW.block ?_)
  refine AW.seq (AW.reg cd71_3 fun K hK => ?_)
  simp only [g71_3, bR, Nat.reduceEqDiff, reduceIte, Int.reduceBNe, Int.reduceBEq]
  simp only [typR, useR, okR, isE_getD hlt, bR, Nat.reduceEqDiff, reduceIte, Int.reduceBNe, Int.reduceBEq]
  refine .done (hK _ ?_); clear hK K; simp only [thenQ, blockQ]
  refine AW.seq (AW.reg cd71_4 fun K hK => ?_)
  simp only [g71_4, bR, Nat.reduceEqDiff, reduceIte, Int.reduceBNe, Int.reduceBEq]
  try simp only [typR, useR, okR, e_fin, bR, Nat.reduceEqDiff, reduceIte, Int.reduceBNe, Int.reduceBEq]
  refine .flat _ (F89 (l.getD i 0) 0 5) rfl ?_
  generalize hr : inR 0 5 (l.getD i 0) = br
  cases br
  · try simp only [typR, useR, okR, e_fin, bR, Nat.reduceEqDiff, reduceIte, Int.reduceBNe, Int.reduceBEq]
    refine .done (hK _ ?_); clear hK K; simp only [thenQ, blockQ]
    refine AW.ite ?_
    simp only [condQ, bR, Nat.reduceEqDiff, reduceIte, Int.reduceBNe, Int.reduceBEq]
    refine ⟨fun h => ?_, fun h => ?_⟩
    · refine AW.seq (AW.reg cd71_5 fun K hK => ?_)
      simp only [g71_5, bR, Nat.reduceEqDiff, reduceIte, Int.reduceBNe, Int.reduceBEq]
      refine .done (hK _ ?_); clear hK K; simp only [thenQ, blockQ]
      refine AW.ret ?_
      simp only [blockQ, thenQ, bR, Nat.reduceEqDiff, reduceIte, Int.reduceBNe, Int.reduceBEq]
      rw [bad (by simp only [placeAt, hr, Bool.false_and])]
    · cases h
  try simp only [typR, useR, okR, e_fin, bR, Nat.reduceEqDiff, reduceIte, Int.reduceBNe, Int.reduceBEq]
  generalize hz : decide (0 < (i : Int)) = bz
  cases bz
  · have hz' : i = 0 := by simp at hz; omega
    try simp only [typR, useR, okR, e_fin, bR, Nat.reduceEqDiff, reduceIte, Int.reduceBNe, Int.reduceBEq]
    refine .done (hK _ ?_); clear hK K; simp only [thenQ, blockQ]
    refine AW.ite ?_
    simp only [condQ, bR, Nat.reduceEqDiff, reduceIte, Int.reduceBNe, Int.reduceBEq]
    refine ⟨fun h => ?_, fun h => ?_⟩
    · cases h
    refine AW.skip ?_; simp only [thenQ, blockQ, reduceIte, Nat.reduceEqDiff]
    refine AW.reg cd71_6 fun K hK => ?_
    simp only [g71_6, bR, Nat.reduceEqDiff, reduceIte, Int.reduceBNe, Int.reduceBEq]
    refine .done (hK _ ?_); clear hK K; simp only [thenQ, blockQ]
    refine ⟨i + 1, ⟨by omega, fun k hk' => ?_⟩, by omega, ?_⟩
    · by_cases hki : k = i
      · rw [hki, placeAt, hr]; simp [hz']
      · exact hi.2 k (by omega)
    · rw [wrap_id _ (by omega) (by omega)]
      refine Sub.of_lists ?_ ?_ ?_ ?_ <;> simp [subT, subO, onlyT, onlyO, isIn, look_cons, lookO_cons, lookO_nil, AV.only, AV.onlys, AO.only, onlys_map, onlys_append, e_only, e_int, e_bool]
  · have hpos : 0 < i := by simpa using hz
    have hpl : i - 1 < l.length := by omega
    have hpred : IntKind.i64.wrap ((i : Int) - 1) = ((i - 1 : Nat) : Int) := by rw [wrap_id _ (by omega) (by omega)]; omega
    simp only [typR, useR, okR, hpred, isE_getD hpl, isE_getD hlt, bR, Nat.reduceEqDiff, reduceIte, Int.reduceBNe, Int.reduceBEq]
    refine .done (hK _ ?_); clear hK K; simp only [thenQ, blockQ]
    refine AW.ite ?_
    simp only [condQ, bR, Nat.reduceEqDiff, reduceIte, Int.reduceBNe, Int.reduceBEq]
    refine ⟨fun h => ?_, fun h => ?_⟩
    · refine AW.seq (AW.reg cd71_5 fun K hK => ?_)
      simp only [g71_5, bR, Nat.reduceEqDiff, reduceIte, Int.reduceBNe, Int.reduceBEq]
      refine .done (hK _ ?_); clear hK K; simp only [thenQ, blockQ]
      refine AW.ret ?_
      simp only [blockQ, thenQ, bR, Nat.reduceEqDiff, reduceIte, Int.reduceBNe, Int.reduceBEq]
      have : (i == 0 || decide (l.getD (i - 1) 0 < l.getD i 0)) = false := by
        have h1 : l.getD i 0 ≤ l.getD (i - 1) 0 := of_decide_eq_true h
        have h2 : ¬ (l.getD (i - 1) 0 < l.getD i 0) := by omega
        have h3 : ¬ i = 0 := by omega
        simp only [decide_eq_false h2, Bool.or_false, beq_eq_false_iff_ne, ne_eq, h3, not_false_eq_true]
      rw [bad (by simp only [placeAt, this, Bool.and_false])]
    have hprev : (i == 0 || decide (l.getD (i - 1) 0 < l.getD i 0)) = true := by
      have h1 : ¬ (l.getD i 0 ≤ l.getD (i - 1) 0) := of_decide_eq_false h
      have h2 : l.getD (i - 1) 0 < l.getD i 0 := by omega
      simp only [decide_eq_true h2, Bool.or_true]
    refine AW.skip ?_; simp only [thenQ, blockQ, reduceIte, Nat.reduceEqDiff]
    refine AW.reg cd71_6 fun K hK => ?_
    simp only [g71_6, bR, Nat.reduceEqDiff, reduceIte, Int.reduceBNe, Int.reduceBEq]
    refine .done (hK _ ?_); clear hK K; simp only [thenQ, blockQ]
    refine ⟨i + 1, ⟨by omega, fun k hk' => ?_⟩, by omega, ?_⟩
    · by_cases hki : k = i
      · rw [hki, placeAt, hr, hprev]; rfl
      · exact hi.2 k (by omega)
    · rw [wrap_id _ (by omega) (by omega)]
      refine Sub.of_lists ?_ ?_ ?_ ?_ <;> simp [subT, subO, onlyT, onlyO, isIn, look_cons, lookO_cons, lookO_nil, AV.only, AV.onlys, AO.only, onlys_map, onlys_append, e_only, e_int, e_bool]
theorem F81 (w : Int) (h0 : 0 ≤ w) (h1 : w ≤ 31) : Ctr Try.prog 81 [enc w] (enc (members w 5)) := by
  refine Ctr.mk' Try.func81 ca81 cc81 cr81 (Nat.le_of_ble_eq_true rfl) (fun hwf W0 D0 E1 => ?_)
  simp only [c81, r81, idx, Nat.zero_add, Nat.reduceAdd]
  refine AW.seq (AW.reg cd81_0 fun K hK => ?_)
  simp only [g81_0, bR, Nat.reduceEqDiff, reduceIte, Int.reduceBNe, Int.reduceBEq]
  refine .done (hK _ ?_); clear hK K; simp only [thenQ, blockQ]
  refine AW.seq (AW.reg cd81_1 fun K hK => ?_)
  simp only [g81_1, bR, Nat.reduceEqDiff, reduceIte, Int.reduceBNe, Int.reduceBEq]
  refine .done (hK _ ?_); clear hK K; simp only [thenQ, blockQ]
  refine AW.seq ?_
  refine AW.seq (AW.reg cd81_2 fun K hK => ?_)
  simp only [g81_2, bR, Nat.reduceEqDiff, reduceIte, Int.reduceBNe, Int.reduceBEq]
  refine .done (hK _ ?_); clear hK K; simp only [thenQ, blockQ]
  refine AW.block (AW.loop (fun i : Nat => mkA [(0, .int .i64 w), (3, .own 3 (members w i).length), (5, .int .i64 i)] [(3, .row 3 1 ((members w i).map enc))]) (fun i => i ≤ 5) (fun i => 5 - i) 0 (by omega) ?_ (fun i hi => ?_))
  · refine Sub.adoptL 3 3 3 1 1 ?_ ?_ ?_
    · simp only [absR, Nat.reduceEqDiff, reduceIte]
    · simp only [absR]
    · simp only [members, List.map_nil, List.length_nil]
      refine Sub.of_lists ?_ ?_ ?_ ?_ <;> simp [subT, subO, onlyT, onlyO, isIn, look_cons, lookO_cons, lookO_nil, AV.only, AV.onlys, AO.only, onlys_map, onlys_append, e_only, e_int, e_bool]
  refine AW.seq (AW.reg cd81_3 fun K hK => ?_)
  simp only [g81_3, bR, Nat.reduceEqDiff, reduceIte, Int.reduceBNe, Int.reduceBEq]
  refine .done (hK _ ?_); clear hK K; simp only [thenQ, blockQ]
  refine AW.seq ?_
  refine AW.ite ?_
  simp only [condQ, bR, Nat.reduceEqDiff, reduceIte, Int.reduceBNe, Int.reduceBEq]
  refine ⟨fun h => ?_, fun h => ?_⟩
  · have hlt : i < 5 := by simp at h; omega
    have hml := members_le w i
    refine AW.skip ?_; simp only [thenQ, blockQ, reduceIte, Nat.reduceEqDiff]
    refine AW.seq (AW.block ?_)
    refine AW.seq (AW.reg cd81_4 fun K hK => ?_)
    simp only [g81_4, bR, Nat.reduceEqDiff, reduceIte, Int.reduceBNe, Int.reduceBEq]
    refine .done (hK _ ?_); clear hK K; simp only [thenQ, blockQ]
    refine AW.seq ?_
    refine AW.reg cd81_5 fun K hK => ?_
    simp only [g81_5, bR, Nat.reduceEqDiff, reduceIte, Int.reduceBNe, Int.reduceBEq]
    refine .flat _ (F110 w i) rfl ?_
    simp only [has_bit w h0 h1 i hlt]
    try simp only [typR, useR, okR, e_fin, bR, Nat.reduceEqDiff, reduceIte, Int.reduceBNe, Int.reduceBEq]
    refine .done (hK _ ?_); clear hK K; simp only [thenQ, blockQ]
    refine AW.ite ?_
    simp only [condQ, bR, Nat.reduceEqDiff, reduceIte, Int.reduceBNe, Int.reduceBEq]
    refine ⟨fun h => ?_, fun h => ?_⟩
    · have hb : bit w i = true := h
      refine AW.reg cd81_6 fun K hK => ?_
      simp only [g81_6, bR, Nat.reduceEqDiff, reduceIte, Int.reduceBNe, Int.reduceBEq]
      rw [appR3_enc 3 1 8 3 rfl rfl (by simp) (by simp [maxLen]; omega) (by simp; omega)]
      simp only [bR, Nat.reduceEqDiff, reduceIte, Int.reduceBNe, Int.reduceBEq]
      refine .done (hK _ ?_); clear hK K; simp only [thenQ, blockQ]
      refine AW.reg cd81_7 fun K hK => ?_
      simp only [g81_7, bR, Nat.reduceEqDiff, reduceIte, Int.reduceBNe, Int.reduceBEq]
      refine .done (hK _ ?_); clear hK K; simp only [thenQ, blockQ]
      refine ⟨i + 1, by omega, by omega, ?_⟩
      rw [wrap_id _ (by omega) (by omega)]
      simp only [members, hb, reduceIte]
      refine Sub.of_lists ?_ ?_ ?_ ?_ <;> simp [subT, subO, onlyT, onlyO, isIn, look_cons, lookO_cons, lookO_nil, AV.only, AV.onlys, AO.only, onlys_map, onlys_append, e_only, e_int, e_bool]
    · have hb : bit w i = false := h
      refine AW.skip ?_; simp only [thenQ, blockQ, reduceIte, Nat.reduceEqDiff]
      refine AW.reg cd81_7 fun K hK => ?_
      simp only [g81_7, bR, Nat.reduceEqDiff, reduceIte, Int.reduceBNe, Int.reduceBEq]
      refine .done (hK _ ?_); clear hK K; simp only [thenQ, blockQ]
      refine ⟨i + 1, by omega, by omega, ?_⟩
      rw [wrap_id _ (by omega) (by omega)]
      simp only [members, hb, reduceIte, Bool.false_eq_true, List.append_nil]
      refine Sub.of_lists ?_ ?_ ?_ ?_ <;> simp [subT, subO, onlyT, onlyO, isIn, look_cons, lookO_cons, lookO_nil, AV.only, AV.onlys, AO.only, onlys_map, onlys_append, e_only, e_int, e_bool]
  · have hge : i = 5 := by simp at h; omega
    subst hge
    refine AW.exit ?_; simp only [thenQ, blockQ, reduceIte, Nat.reduceEqDiff]
    refine AW.seq (AW.reg cd81_8 fun K hK => ?_)
    simp only [g81_8, bR, Nat.reduceEqDiff, reduceIte, Int.reduceBNe, Int.reduceBEq]
    refine .done (hK _ ?_); clear hK K; simp only [thenQ, blockQ]
    refine AW.ret ?_
    simp only [blockQ, thenQ, bR, Nat.reduceEqDiff, reduceIte, Int.reduceBNe, Int.reduceBEq]
end Go.Proofs.Ytkjkbpgdpnapfaa

/-
  FUNCTIONS OF mark BY CONTRACT: Looked.
-/
namespace Go.Proofs.Ytkjkbpgdpnapfaa
open Go Go.Abs
open Go.Abs.Enc (enc)
theorem okPlaces_in {l : List Int} (h : okPlaces l = true) : ∀ k ∈ l, 0 ≤ k ∧ k < 6 := by
  intro k hk
  simp only [okPlaces, List.all_eq_true, List.mem_range] at h
  obtain ⟨i, hi, rfl⟩ := List.getElem_of_mem hk
  have := h i hi
  simp only [placeAt, inR, List.getD_eq_getElem?_getD, List.getElem?_eq_getElem hi, Option.getD_some, Bool.and_eq_true, decide_eq_true_eq] at this
  omega
theorem F76 (m : Marks) (g : Given) (worn : Arr 6 Int) (k : Nat) (hk : k < 6) (hg : okMark g.mark = true) : Ctr Try.prog 76 (enc (k : Int) :: [.ref (enc m), .ref (enc g), .ref (enc worn)]) (enc (band (m.wear.g (g.mark.g k).toNat) (worn.g k) == 0)) := by
  refine Ctr.mk' Try.func76 ca76 cc76 cr76 (Nat.le_of_ble_eq_true rfl) (fun hwf W0 D0 E1 => ?_)
  simp only [c76, r76, idx, Nat.zero_add, Nat.reduceAdd]
  have h1 := okMark_at hg hk
  refine AW.seq (AW.reg cd76_0 fun K hK => ?_)
  simp only [g76_0, bR, Nat.reduceEqDiff, reduceIte, Int.reduceBNe, Int.reduceBEq]
  refine .done (hK _ ?_); clear hK K; simp only [thenQ, blockQ]
  refine AW.seq (AW.reg cd76_1 fun K hK => ?_)
  simp only [g76_1, bR, Nat.reduceEqDiff, reduceIte, Int.reduceBNe, Int.reduceBEq]
  try simp only [typR, useR, okR, e_fin, bR, Nat.reduceEqDiff, reduceIte, Int.reduceBNe, Int.reduceBEq]
  refine .flat _ (F77 m.wear g.mark k hk h1.1 h1.2) rfl ?_
  simp only [typR, useR, okR, inB_nat 1 worn hk rfl, atL_g worn hk, get_g worn hk, bR, Nat.reduceEqDiff, reduceIte, Int.reduceBNe, Int.reduceBEq]
  refine .flat _ (F78 _ _) rfl ?_
  try simp only [typR, useR, okR, e_fin, bR, Nat.reduceEqDiff, reduceIte, Int.reduceBNe, Int.reduceBEq]
  refine .done (hK _ ?_); clear hK K; simp only [thenQ, blockQ]
  refine AW.ret ?_
  simp only [blockQ, thenQ, bR, Nat.reduceEqDiff, reduceIte, Int.reduceBNe, Int.reduceBEq]
  simp only [bne, Bool.not_not]
def clash (w : Arr 5 Int) (worn : Arr 6 Int) (places : List Int) (g : Given) : Bool := places.any fun k => band (w.g (g.mark.g k.toNat).toNat) (worn.g k.toNat) == 0
theorem F74 (m : Marks) (g : Given) (worn : Arr 6 Int) (places : List Int) (hg : okMark g.mark = true) (hp : ∀ k ∈ places, 0 ≤ k ∧ k < 6) : Ctr Try.prog 74 (enc g :: [.ref (enc places), .ref (enc m), .ref (enc worn)]) (enc (clash m.wear worn places g)) := by
  refine Ctr.mk' Try.func74 ca74 cc74 cr74 (Nat.le_of_ble_eq_true rfl) (fun hwf W0 D0 E1 => ?_)
  simp only [c74, r74, idx, Nat.zero_add, Nat.reduceAdd]
  refine AW.seq (AW.reg cd74_0 fun K hK => ?_)
  simp only [g74_0, bR, Nat.reduceEqDiff, reduceIte, Int.reduceBNe, Int.reduceBEq]
  simp only [e_isVal, bR, Nat.reduceEqDiff, reduceIte, Int.reduceBNe, Int.reduceBEq]
  refine .done (hK _ ?_); clear hK K; simp only [thenQ, blockQ]
  refine AW.seq (AW.reg cd74_1 fun K hK => ?_)
  simp only [g74_1, bR, Nat.reduceEqDiff, reduceIte, Int.reduceBNe, Int.reduceBEq]
  try simp only [typR, useR, okR, e_fin, bR, Nat.reduceEqDiff, reduceIte, Int.reduceBNe, Int.reduceBEq]
  try simp only [List.all_cons, List.all_nil, AV.isVal, Bool.and_true, Bool.and_self, if_true, e_isVal, e_closed, e_fin, bR, Nat.reduceEqDiff, reduceIte, Int.reduceBNe, Int.reduceBEq]
  try simp only [typR, useR, okR, e_fin, bR, Nat.reduceEqDiff, reduceIte, Int.reduceBNe, Int.reduceBEq]
  refine .flat _ (F75 places 76 [.ref (enc m), .ref (enc g), .ref (enc worn)] ?_ (fun k => band (m.wear.g (g.mark.g k.toNat).toNat) (worn.g k.toNat) == 0) (fun k hk => ?_)) rfl ?_
  · simp [AV.dones, AV.done, Enc.done, e_closed]
  · have hk2 := hp k hk
    have := F76 m g worn k.toNat (by omega) hg
    rwa [show ((k.toNat : Nat) : Int) = k by omega] at this
  try simp only [typR, useR, okR, e_fin, bR, Nat.reduceEqDiff, reduceIte, Int.reduceBNe, Int.reduceBEq]
  refine .done (hK _ ?_); clear hK K; simp only [thenQ, blockQ]
  refine AW.ret ?_
  simp only [blockQ, thenQ, bR, Nat.reduceEqDiff, reduceIte, Int.reduceBNe, Int.reduceBEq]
  rfl
def lookedG (m : Marks) (r worn : Arr 6 Int) (places : List Int) : List Given := keep (clash m.wear worn places) (possG m r)
def lookedOf (m : Marks) (r worn : Arr 6 Int) (places : List Int) : List Int × Int :=
  if okM m then (if okReading r then (if okReading worn then (if okPlaces places then ((lookedG m r worn places).map (·.owner), 0) else ([], 18)) else ([], 12)) else ([], 12)) else ([], 13)
theorem F14 (m : Marks) (r worn : Arr 6 Int) (places : List Int) : Ctr Try.prog 14 [enc m, enc r, enc worn, enc places] (.tuple [enc (lookedOf m r worn places).1, enc (lookedOf m r worn places).2]) := by
  refine Ctr.mk' Try.func14 ca14 cc14 cr14 (Nat.le_of_ble_eq_true rfl) (fun hwf W0 D0 E1 => ?_)
  simp only [c14, r14, idx, Nat.zero_add, Nat.reduceAdd]
  refine AW.seq (AW.reg cd14_0 fun K hK => ?_)
  simp only [g14_0, bR, Nat.reduceEqDiff, reduceIte, Int.reduceBNe, Int.reduceBEq]
  simp only [e_isVal, bR, Nat.reduceEqDiff, reduceIte, Int.reduceBNe, Int.reduceBEq]
  refine .done (hK _ ?_); clear hK K; simp only [thenQ, blockQ]
  refine AW.seq ?_
  refine AW.seq (AW.reg cd14_1 fun K hK => ?_)
  simp only [g14_1, bR, Nat.reduceEqDiff, reduceIte, Int.reduceBNe, Int.reduceBEq]
  try simp only [typR, useR, okR, e_fin, bR, Nat.reduceEqDiff, reduceIte, Int.reduceBNe, Int.reduceBEq]
  refine .flat _ (F47 m) rfl ?_
  try simp only [typR, useR, okR, e_fin, bR, Nat.reduceEqDiff, reduceIte, Int.reduceBNe, Int.reduceBEq]
  refine .flat _ (F45 r) rfl ?_
  try simp only [typR, useR, okR, e_fin, bR, Nat.reduceEqDiff, reduceIte, Int.reduceBNe, Int.reduceBEq]
  refine .flat _ (F45 worn) rfl ?_
  simp only [typR, useR, okR, e_fin, bs3, bR, Nat.reduceEqDiff, reduceIte, Int.reduceBNe, Int.reduceBEq]
  refine .flat _ (F64 _) rfl ?_
  rw [first3 _ _ _ 13 12 12 (by decide) (by decide) (by decide)]
  simp only [bR, Nat.reduceEqDiff, reduceIte, Int.reduceBNe, Int.reduceBEq]
  refine .done (hK _ ?_); clear hK K; simp only [thenQ, blockQ]
  generalize hw : okM m = bw
  generalize hr : okReading r = br
  generalize hwo : okReading worn = bwo
  cases bw
  · refine AW.seq (AW.reg cd14_2 fun K hK => ?_)
    simp only [g14_2, bR, Nat.reduceEqDiff, reduceIte, Int.reduceBNe, Int.reduceBEq]
    refine .done (hK _ ?_); clear hK K; simp only [thenQ, blockQ]
    refine AW.ite ?_
    simp only [condQ, bR, Nat.reduceEqDiff, reduceIte, Int.reduceBNe, Int.reduceBEq]
    refine ⟨fun h => ?_, fun h => ?_⟩
    · refine AW.seq (AW.reg cd14_3 fun K hK => ?_)
      simp only [g14_3, bR, Nat.reduceEqDiff, reduceIte, Int.reduceBNe, Int.reduceBEq]
      refine .done (hK _ ?_); clear hK K; simp only [thenQ, blockQ]
      refine AW.ret ?_
      simp only [blockQ, thenQ, bR, Nat.reduceEqDiff, reduceIte, Int.reduceBNe, Int.reduceBEq]
      simp [lookedOf, hw, nilInt]
    · cases h
  cases br
  · refine AW.seq (AW.reg cd14_2 fun K hK => ?_)
    simp only [g14_2, bR, Nat.reduceEqDiff, reduceIte, Int.reduceBNe, Int.reduceBEq]
    refine .done (hK _ ?_); clear hK K; simp only [thenQ, blockQ]
    refine AW.ite ?_
    simp only [condQ, bR, Nat.reduceEqDiff, reduceIte, Int.reduceBNe, Int.reduceBEq]
    refine ⟨fun h => ?_, fun h => ?_⟩
    · refine AW.seq (AW.reg cd14_3 fun K hK => ?_)
      simp only [g14_3, bR, Nat.reduceEqDiff, reduceIte, Int.reduceBNe, Int.reduceBEq]
      refine .done (hK _ ?_); clear hK K; simp only [thenQ, blockQ]
      refine AW.ret ?_
      simp only [blockQ, thenQ, bR, Nat.reduceEqDiff, reduceIte, Int.reduceBNe, Int.reduceBEq]
      simp [lookedOf, hw, hr, nilInt]
    · cases h
  cases bwo
  · refine AW.seq (AW.reg cd14_2 fun K hK => ?_)
    simp only [g14_2, bR, Nat.reduceEqDiff, reduceIte, Int.reduceBNe, Int.reduceBEq]
    refine .done (hK _ ?_); clear hK K; simp only [thenQ, blockQ]
    refine AW.ite ?_
    simp only [condQ, bR, Nat.reduceEqDiff, reduceIte, Int.reduceBNe, Int.reduceBEq]
    refine ⟨fun h => ?_, fun h => ?_⟩
    · refine AW.seq (AW.reg cd14_3 fun K hK => ?_)
      simp only [g14_3, bR, Nat.reduceEqDiff, reduceIte, Int.reduceBNe, Int.reduceBEq]
      refine .done (hK _ ?_); clear hK K; simp only [thenQ, blockQ]
      refine AW.ret ?_
      simp only [blockQ, thenQ, bR, Nat.reduceEqDiff, reduceIte, Int.reduceBNe, Int.reduceBEq]
      simp [lookedOf, hw, hr, hwo, nilInt]
    · cases h
  refine AW.seq (AW.reg cd14_2 fun K hK => ?_)
  simp only [g14_2, bR, Nat.reduceEqDiff, reduceIte, Int.reduceBNe, Int.reduceBEq]
  refine .done (hK _ ?_); clear hK K; simp only [thenQ, blockQ]
  refine AW.ite ?_
  simp only [condQ, bR, Nat.reduceEqDiff, reduceIte, Int.reduceBNe, Int.reduceBEq]
  refine ⟨fun h => ?_, fun h => ?_⟩
  · cases h
  refine AW.skip ?_; simp only [thenQ, blockQ, reduceIte, Nat.reduceEqDiff]
  refine AW.seq ?_
  refine AW.seq (AW.reg cd14_4 fun K hK => ?_)
  simp only [g14_4, bR, Nat.reduceEqDiff, reduceIte, Int.reduceBNe, Int.reduceBEq]
  try simp only [typR, useR, okR, e_fin, bR, Nat.reduceEqDiff, reduceIte, Int.reduceBNe, Int.reduceBEq]
  refine .flat _ (F71 places) rfl ?_
  generalize hpl : okPlaces places = bp
  cases bp
  · try simp only [typR, useR, okR, e_fin, bR, Nat.reduceEqDiff, reduceIte, Int.reduceBNe, Int.reduceBEq]
    refine .done (hK _ ?_); clear hK K; simp only [thenQ, blockQ]
    refine AW.ite ?_
    simp only [condQ, bR, Nat.reduceEqDiff, reduceIte, Int.reduceBNe, Int.reduceBEq]
    refine ⟨fun h => ?_, fun h => ?_⟩
    · refine AW.seq (AW.reg cd14_5 fun K hK => ?_)
      simp only [g14_5, bR, Nat.reduceEqDiff, reduceIte, Int.reduceBNe, Int.reduceBEq]
      refine .done (hK _ ?_); clear hK K; simp only [thenQ, blockQ]
      refine AW.ret ?_
      simp only [blockQ, thenQ, bR, Nat.reduceEqDiff, reduceIte, Int.reduceBNe, Int.reduceBEq]
      simp [lookedOf, hw, hr, hwo, hpl, nilInt]
    · cases h
  try simp only [typR, useR, okR, e_fin, bR, Nat.reduceEqDiff, reduceIte, Int.reduceBNe, Int.reduceBEq]
  refine .done (hK _ ?_); clear hK K; simp only [thenQ, blockQ]
  refine AW.ite ?_
  simp only [condQ, bR, Nat.reduceEqDiff, reduceIte, Int.reduceBNe, Int.reduceBEq]
  refine ⟨fun h => ?_, fun h => ?_⟩
  · cases h
  refine AW.skip ?_; simp only [thenQ, blockQ, reduceIte, Nat.reduceEqDiff]
  have hpi := okPlaces_in hpl
  have hlen : m.given.length ≤ 1000 := by have := okM_len hw; omega
  have hps : (possG m r).length ≤ 1000 := Nat.le_trans (List.length_filter_le _ _) hlen
  have hpm : ∀ g ∈ possG m r, okMark g.mark = true := fun g hg => okM_mark hw g (possG_mem hg)
  have hld : (lookedG m r worn places).length ≤ 1000 := Nat.le_trans (List.length_filter_le _ _) hps
  have hd : AV.dones [.ref (enc places), .ref (enc m), .ref (enc worn)] = true := by simp only [AV.dones, AV.done, e_closed, Bool.and_self]
  refine AW.seq (AW.reg cd14_6 fun K hK => ?_)
  simp only [g14_6, bR, Nat.reduceEqDiff, reduceIte, Int.reduceBNe, Int.reduceBEq]
  try simp only [typR, useR, okR, e_fin, bR, Nat.reduceEqDiff, reduceIte, Int.reduceBNe, Int.reduceBEq]
  refine .obj false [(7, 27)] [] [enc m, enc r] (possPost 7 m r) rfl (F65 m r (okM_mark hw) hlen) Gvn.nil ⟨.inl ⟨(e_ren _ _).symm, e_only _ _, e_isVal _⟩, .inl ⟨(e_ren _ _).symm, e_only _ _, e_isVal _⟩, trivial⟩ ?_ ?_
  · rintro x os' (⟨_, rfl, rfl⟩ | ⟨k, rfl, rfl⟩)
    · exact Bck.nil (fun _ => rfl) (fun h => by cases h)
    · exact Bck.new1 (fun p => map_only p _) (fun h => by cases h) rfl (fun h => by cases h) rfl (by decide)
  · rintro x os' (⟨hp, rfl, rfl⟩ | ⟨k, rfl, rfl⟩)
    · have hlk : lookedG m r worn places = [] := by simp [lookedG, keep, hp]
      simp only [e_ren, renR, List.nil_append, e_fin, List.all_cons, List.all_nil, AV.isVal, Bool.and_self, e_closed, bR, Nat.reduceEqDiff, reduceIte, Int.reduceBNe, Int.reduceBEq]
      refine .free [7, 4, 6] (enc ([] : List Given)) rfl (F73n 74 [.ref (enc places), .ref (enc m), .ref (enc worn)] hd) ?_ ?_ ?_
      · simp only [keepO, List.filter_cons, List.filter_nil, List.contains_cons, List.contains_nil, Nat.reduceBEq, Bool.or_false, Bool.or_true, Bool.true_or, Bool.false_or, BEq.rfl, e_closed, e_fin, bR, Nat.reduceEqDiff, reduceIte, Int.reduceBNe, Int.reduceBEq]
      · simp [dropO, onlyO, AO.only, e_only]
      · simp only [fgt, dropO, List.filter_cons, List.filter_nil, List.contains_cons, List.contains_nil, Nat.reduceBEq, Bool.or_false, Bool.or_true, Bool.true_or, Bool.false_or, BEq.rfl, e_fin, bR, Nat.reduceEqDiff, reduceIte, Int.reduceBNe, Int.reduceBEq]
        refine .lead _ (F72 [] (by simp)) ?_
        simp only [List.map_nil, bR, Nat.reduceEqDiff, reduceIte, Int.reduceBNe, Int.reduceBEq]
        refine .done (hK _ ?_); clear hK K; simp only [thenQ, blockQ]
        refine AW.ret ?_
        simp only [blockQ, thenQ, bR, Nat.reduceEqDiff, reduceIte, Int.reduceBNe, Int.reduceBEq]
        simp only [e_fin, bR, Nat.reduceEqDiff, reduceIte, Int.reduceBNe, Int.reduceBEq]
        simp [lookedOf, hw, hr, hwo, hpl, hlk]
    · simp only [rowG, renR, rens_map_enc, List.cons_append, List.nil_append, List.all_cons, List.all_nil, AV.isVal, Bool.and_self, bR, Nat.reduceEqDiff, reduceIte, Int.reduceBNe, Int.reduceBEq]
      refine .obj true [(1000000, 27)] (rowG 1000000 (possG m r) k) [.view 1000000 [] 7 0 (possG m r).length, .func 74 [.ref (enc places), .ref (enc m), .ref (enc worn)]] (delPost 1000000 (lookedG m r worn places)) rfl
        (F73 (possG m r) 74 [.ref (enc places), .ref (enc m), .ref (enc worn)] hd (clash m.wear worn places) (fun g hg => F74 m g worn places (hpm g hg) hpi) hps k) ⟨?_, ?_⟩ ⟨.inl ⟨?_, ?_, rfl⟩, .inr ?_, trivial⟩ ?_ ?_
      · intro n x h
        simp only [rowG, lookO] at h
        split at h
        · rename_i hn'
          subst hn'
          simp only [Option.some.injEq] at h
          subst h
          exact ⟨by simp only [renR, rens_map_enc, bR, Nat.reduceEqDiff, reduceIte, Int.reduceBNe, Int.reduceBEq], map_only _ _, rfl⟩
        · cases h
      · intro a b ha hb _
        rw [isIn_one.1 ha, isIn_one.1 hb]
      · simp only [renR, bR, Nat.reduceEqDiff, reduceIte, Int.reduceBNe, Int.reduceBEq]
      · exact isIn_one.2 rfl
      · simp only [names, rowG, rnm, dropO, List.filter_cons, List.filter_nil, List.map_cons, List.map_nil, List.contains_cons, List.contains_nil, Nat.reduceBEq, Bool.or_false, Bool.or_true, Bool.true_or, Bool.false_or, BEq.rfl, e_closed, e_fin, bR, Nat.reduceEqDiff, reduceIte, Int.reduceBNe, Int.reduceBEq]
      · rintro x os' ⟨k', rfl, rfl⟩
        exact Bck.one (fun p => map_only p _) (fun _ => map_lean _) (isIn_one.2 rfl) (fun _ => rfl)
      · rintro x os' ⟨k', rfl, rfl⟩
        simp only [rowG, renR, rens_map_enc, List.cons_append, List.nil_append, bR, Nat.reduceEqDiff, reduceIte, Int.reduceBNe, Int.reduceBEq]
        refine .free [27] _ rfl (F72 (lookedG m r worn places) hld) ?_ ?_ ?_
        · simp only [keepO, List.filter_cons, List.filter_nil, List.contains_cons, List.contains_nil, Nat.reduceBEq, Bool.or_false, Bool.or_true, Bool.true_or, Bool.false_or, BEq.rfl, finV_take (α := Given) (sz := 7) rfl, take_row, bR, Nat.reduceEqDiff, reduceIte, Int.reduceBNe, Int.reduceBEq]
        · simp [dropO, onlyO, AO.only, e_only]
        · simp only [fgt, dropO, List.filter_cons, List.filter_nil, List.contains_cons, List.contains_nil, Nat.reduceBEq, Bool.or_false, Bool.or_true, Bool.true_or, Bool.false_or, BEq.rfl, AV.only, e_only, bR, Nat.reduceEqDiff, reduceIte, Int.reduceBNe, Int.reduceBEq]
          refine .done (hK _ ?_); clear hK K; simp only [thenQ, blockQ]
          refine AW.ret ?_
          simp only [blockQ, thenQ, bR, Nat.reduceEqDiff, reduceIte, Int.reduceBNe, Int.reduceBEq]
          simp only [e_fin, bR, Nat.reduceEqDiff, reduceIte, Int.reduceBNe, Int.reduceBEq]
          simp [lookedOf, hw, hr, hwo, hpl]
end Go.Proofs.Ytkjkbpgdpnapfaa

/-
  FUNCTIONS OF mark BY CONTRACT: Worn.
-/
namespace Go.Proofs.Ytkjkbpgdpnapfaa
open Go Go.Abs
open Go.Abs.Enc (enc)
theorem members_mem {w : Int} {k : Nat} (h : bit w k = true) : ∀ n, k < n → (k : Int) ∈ members w n
  | 0, h => absurd h (by omega)
  | n + 1, hk => by
    simp only [members, List.mem_append]
    rcases Nat.lt_or_ge k n with h1 | h1
    · exact .inl (members_mem h n h1)
    · have : k = n := by omega
      subst this
      right; simp [h]
theorem members_in {w : Int} : ∀ n, ∀ x ∈ members w n, 0 ≤ x ∧ x < n
  | 0 => by simp [members]
  | n + 1 => by
    intro x hx
    simp only [members, List.mem_append] at hx
    rcases hx with hx | hx
    · have := members_in n x hx; omega
    · split at hx
      · simp only [List.mem_singleton] at hx; omega
      · cases hx
theorem okWear_at {w : Arr 5 Int} (h : okWear w = true) {k : Nat} (hk : k < 5) : (0 ≤ w.g k ∧ w.g k ≤ 31) ∧ bit (w.g k) k = true := by
  simp only [okWear, List.all_eq_true, List.mem_range, Bool.and_eq_true] at h
  have := h k hk
  simp only [inR, Bool.and_eq_true, decide_eq_true_eq] at this
  exact this
/-- The place of the sign that a cut chooses. -/
def cutAt (cuts : List Int) (i n : Nat) : Nat := if 0 < cuts.length then (((cuts.getD (i % cuts.length) 0).tmod n + n).tmod n).toNat else 0
def signs (w : Arr 5 Int) (a : Arr 6 Int) (i : Nat) : List Int := members (w.g (a.g i).toNat) 5
def wornV (w : Arr 5 Int) (a : Arr 6 Int) (cuts : List Int) (i : Nat) : Int := shl 1 ((signs w a i).getD (cutAt cuts i (signs w a i).length) 0).toNat
def wornUp (w : Arr 5 Int) (a : Arr 6 Int) (cuts : List Int) : Nat → Arr 6 Int
  | 0 => zero6
  | i + 1 => upd (wornUp w a cuts i) i (wornV w a cuts i)
def wornR (w : Arr 5 Int) (a : Arr 6 Int) (cuts : List Int) : Arr 6 Int × Int := if okWear w then (if okMark a then (wornUp w a cuts 6, 0) else (zero6, 10)) else (zero6, 11)
theorem cutAt_lt (cuts : List Int) (i : Nat) {n : Nat} (hn : 0 < n) : cutAt cuts i n < n := by
  unfold cutAt
  split
  · have h1 : -(n : Int) < (cuts.getD (i % cuts.length) 0).tmod n := by
      have := Int.tmod_lt_of_pos (-(cuts.getD (i % cuts.length) 0)) (show (0 : Int) < n by omega)
      rw [Int.neg_tmod] at this; omega
    have h2 := Int.tmod_lt_of_pos ((cuts.getD (i % cuts.length) 0).tmod n + n) (show (0 : Int) < n by omega)
    have h3 : 0 ≤ ((cuts.getD (i % cuts.length) 0).tmod n + n).tmod n := Int.tmod_nonneg _ (by omega)
    omega
  · exact hn
theorem F19 (w : Arr 5 Int) (a : Arr 6 Int) (cuts : List Int) : Ctr Try.prog 19 [enc w, enc a, enc cuts] (.tuple [enc (wornR w a cuts).1, enc (wornR w a cuts).2]) := by
  refine Ctr.mk' Try.func19 ca19 cc19 cr19 (Nat.le_of_ble_eq_true rfl) (fun hwf W0 D0 E1 => ?_)
  simp only [c19, r19, idx, Nat.zero_add, Nat.reduceAdd]
  have hlen : cuts.length ≤ maxLen := ((wf_list cuts).1 hwf.2.2.1).1
  simp only [maxLen] at hlen
  refine AW.seq (AW.reg cd19_0 fun K hK => ?_)
  simp only [g19_0, bR, Nat.reduceEqDiff, reduceIte, Int.reduceBNe, Int.reduceBEq]
  simp only [e_isVal, e_zero6, bR, Nat.reduceEqDiff, reduceIte, Int.reduceBNe, Int.reduceBEq]
  refine .done (hK _ ?_); clear hK K; simp only [thenQ, blockQ]
  refine AW.seq ?_
  refine AW.seq (AW.reg cd19_1 fun K hK => ?_)
  simp only [g19_1, bR, Nat.reduceEqDiff, reduceIte, Int.reduceBNe, Int.reduceBEq]
  try simp only [typR, useR, okR, e_fin, bR, Nat.reduceEqDiff, reduceIte, Int.reduceBNe, Int.reduceBEq]
  refine .flat _ (F43 w) rfl ?_
  try simp only [typR, useR, okR, e_fin, bR, Nat.reduceEqDiff, reduceIte, Int.reduceBNe, Int.reduceBEq]
  refine .flat _ (F41 a) rfl ?_
  simp only [typR, useR, okR, e_fin, bs2, bR, Nat.reduceEqDiff, reduceIte, Int.reduceBNe, Int.reduceBEq]
  refine .flat _ (F64 _) rfl ?_
  rw [first2 _ _ 11 10 (by decide) (by decide)]
  simp only [bR, Nat.reduceEqDiff, reduceIte, Int.reduceBNe, Int.reduceBEq]
  refine .done (hK _ ?_); clear hK K; simp only [thenQ, blockQ]
  generalize hw : okWear w = bw
  generalize ha : okMark a = ba
  cases bw
  · refine AW.seq (AW.reg cd19_2 fun K hK => ?_)
    simp only [g19_2, bR, Nat.reduceEqDiff, reduceIte, Int.reduceBNe, Int.reduceBEq]
    refine .done (hK _ ?_); clear hK K; simp only [thenQ, blockQ]
    refine AW.ite ?_
    simp only [condQ, bR, Nat.reduceEqDiff, reduceIte, Int.reduceBNe, Int.reduceBEq]
    refine ⟨fun h => ?_, fun h => ?_⟩
    · refine AW.seq (AW.reg cd19_3 fun K hK => ?_)
      simp only [g19_3, bR, Nat.reduceEqDiff, reduceIte, Int.reduceBNe, Int.reduceBEq]
      simp only [setParts, e_zero6, stR3_6, bR, Nat.reduceEqDiff, reduceIte, Int.reduceBNe, Int.reduceBEq]
      refine .done (hK _ ?_); clear hK K; simp only [thenQ, blockQ]
      refine AW.ret ?_
      simp only [blockQ, thenQ, bR, Nat.reduceEqDiff, reduceIte, Int.reduceBNe, Int.reduceBEq]
      simp only [typR, e_fin, bR, Nat.reduceEqDiff, reduceIte, Int.reduceBNe, Int.reduceBEq]
      simp [wornR, hw, e_int]
    · cases h
  cases ba
  · refine AW.seq (AW.reg cd19_2 fun K hK => ?_)
    simp only [g19_2, bR, Nat.reduceEqDiff, reduceIte, Int.reduceBNe, Int.reduceBEq]
    refine .done (hK _ ?_); clear hK K; simp only [thenQ, blockQ]
    refine AW.ite ?_
    simp only [condQ, bR, Nat.reduceEqDiff, reduceIte, Int.reduceBNe, Int.reduceBEq]
    refine ⟨fun h => ?_, fun h => ?_⟩
    · refine AW.seq (AW.reg cd19_3 fun K hK => ?_)
      simp only [g19_3, bR, Nat.reduceEqDiff, reduceIte, Int.reduceBNe, Int.reduceBEq]
      simp only [setParts, e_zero6, stR3_6, bR, Nat.reduceEqDiff, reduceIte, Int.reduceBNe, Int.reduceBEq]
      refine .done (hK _ ?_); clear hK K; simp only [thenQ, blockQ]
      refine AW.ret ?_
      simp only [blockQ, thenQ, bR, Nat.reduceEqDiff, reduceIte, Int.reduceBNe, Int.reduceBEq]
      simp only [typR, e_fin, bR, Nat.reduceEqDiff, reduceIte, Int.reduceBNe, Int.reduceBEq]
      simp [wornR, hw, ha, e_int]
    · cases h
  refine AW.seq (AW.reg cd19_2 fun K hK => ?_)
  simp only [g19_2, bR, Nat.reduceEqDiff, reduceIte, Int.reduceBNe, Int.reduceBEq]
  refine .done (hK _ ?_); clear hK K; simp only [thenQ, blockQ]
  refine AW.ite ?_
  simp only [condQ, bR, Nat.reduceEqDiff, reduceIte, Int.reduceBNe, Int.reduceBEq]
  refine ⟨fun h => ?_, fun h => ?_⟩
  · cases h
  refine AW.skip ?_; simp only [thenQ, blockQ, reduceIte, Nat.reduceEqDiff]
  refine AW.seq (AW.reg cd19_4 fun K hK => ?_)
  simp only [g19_4, bR, Nat.reduceEqDiff, reduceIte, Int.reduceBNe, Int.reduceBEq]
  refine .done (hK _ ?_); clear hK K; simp only [thenQ, blockQ]
  refine AW.seq ?_
  refine AW.seq (AW.reg cd19_5 fun K hK => ?_)
  simp only [g19_5, bR, Nat.reduceEqDiff, reduceIte, Int.reduceBNe, Int.reduceBEq]
  refine .done (hK _ ?_); clear hK K; simp only [thenQ, blockQ]
  refine AW.block (AW.loop (fun i : Nat => mkA [(2, enc cuts), (3, .ptr 3 []), (4, .ptr 4 []), (6, .ptr 6 []), (9, .ptr 9 []), (23, .int .i64 i)] [(3, .box (enc w)), (4, .box (enc a)), (6, .box (enc zero6)), (9, .box (enc (wornUp w a cuts i)))]) (fun i => i ≤ 6) (fun i => 6 - i) 0 (by omega) ?_ (fun i hi => ?_))
  · simp only [e_zero6, wornUp]
    refine Sub.of_lists ?_ ?_ ?_ ?_ <;> simp [subT, subO, onlyT, onlyO, isIn, look_cons, lookO_cons, lookO_nil, AV.only, AV.onlys, AO.only, onlys_map, onlys_append, e_only, e_int, e_bool]
  refine AW.seq (AW.reg cd19_6 fun K hK => ?_)
  simp only [g19_6, bR, Nat.reduceEqDiff, reduceIte, Int.reduceBNe, Int.reduceBEq]
  refine .done (hK _ ?_); clear hK K; simp only [thenQ, blockQ]
  refine AW.seq ?_
  refine AW.ite ?_
  simp only [condQ, bR, Nat.reduceEqDiff, reduceIte, Int.reduceBNe, Int.reduceBEq]
  refine ⟨fun h => ?_, fun h => ?_⟩
  · have hi6 : i < 6 := by simp at h; omega
    refine AW.skip ?_; simp only [thenQ, blockQ, reduceIte, Nat.reduceEqDiff]
    refine AW.seq (AW.block ?_)
    refine AW.seq (AW.reg cd19_7 fun K hK => ?_)
    simp only [g19_7, bR, Nat.reduceEqDiff, reduceIte, Int.reduceBNe, Int.reduceBEq]
    refine .done (hK _ ?_); clear hK K; simp only [thenQ, blockQ]
    refine AW.seq (AW.reg cd19_8 fun K hK => ?_)
    simp only [g19_8, bR, Nat.reduceEqDiff, reduceIte, Int.reduceBNe, Int.reduceBEq]
    try simp only [typR, useR, okR, e_fin, bR, Nat.reduceEqDiff, reduceIte, Int.reduceBNe, Int.reduceBEq]
    have h1 := okMark_at ha hi6
    have h2 := okWear_at hw (show (a.g i).toNat < 5 by omega)
    refine .flat _ (F77 w a i hi6 h1.1 h1.2) rfl ?_
    try simp only [typR, useR, okR, e_fin, bR, Nat.reduceEqDiff, reduceIte, Int.reduceBNe, Int.reduceBEq]
    refine .lead _ (F81 (w.g (a.g i).toNat) h2.1.1 h2.1.2) ?_
    try simp only [typR, useR, okR, e_fin, bR, Nat.reduceEqDiff, reduceIte, Int.reduceBNe, Int.reduceBEq]
    refine .done (hK _ ?_); clear hK K; simp only [thenQ, blockQ]
    have hL : signs w a i = members (w.g (a.g i).toNat) 5 := rfl
    rw [← hL]
    have hL5 : (signs w a i).length ≤ 5 := members_le _ 5
    have hL0 : 0 < (signs w a i).length := List.length_pos_of_mem (members_mem h2.2 5 (by omega))
    have hLn : ¬ ((signs w a i).length : Int) = 0 := by omega
    have hLi : ∀ x ∈ signs w a i, 0 ≤ x ∧ x < (5 : Nat) := members_in 5
    have hV : wornV w a cuts i = shl 1 ((signs w a i).getD (cutAt cuts i (signs w a i).length) 0).toNat := rfl
    have hcl := cutAt_lt cuts i hL0
    generalize hLL : signs w a i = L at hL5 hL0 hLn hLi hV hcl ⊢
    refine AW.seq (AW.reg cd19_9 fun K hK => ?_)
    simp only [g19_9, bR, Nat.reduceEqDiff, reduceIte, Int.reduceBNe, Int.reduceBEq]
    refine .done (hK _ ?_); clear hK K; simp only [thenQ, blockQ]
    refine AW.seq ?_
    refine AW.via (mkA [(2, enc cuts), (3, .ptr 3 []), (4, .ptr 4 []), (6, .ptr 6 []), (9, .ptr 9 []), (10, .int .i64 i), (11, enc L), (12, .int .i64 (cutAt cuts i L.length)), (23, .int .i64 i)] [(3, .box (enc w)), (4, .box (enc a)), (6, .box (enc zero6)), (9, .box (enc (wornUp w a cuts i)))]) ?_ fun B hB => ?_
    · refine AW.seq (AW.reg cd19_10 fun K hK => ?_)
      simp only [g19_10, bR, Nat.reduceEqDiff, reduceIte, Int.reduceBNe, Int.reduceBEq]
      try simp only [typR, useR, okR, e_fin, bR, Nat.reduceEqDiff, reduceIte, Int.reduceBNe, Int.reduceBEq]
      refine .done (hK _ ?_); clear hK K; simp only [thenQ, blockQ]
      refine AW.ite ?_
      simp only [condQ, bR, Nat.reduceEqDiff, reduceIte, Int.reduceBNe, Int.reduceBEq]
      refine ⟨fun h => ?_, fun h => ?_⟩
      · have hcp : 0 < cuts.length := by simpa using h
        have hcn : ¬ (cuts.length : Int) = 0 := by omega
        have hm : (i : Int).tmod cuts.length = ((i % cuts.length : Nat) : Int) := Int.ofNat_tmod i cuts.length
        have hml : i % cuts.length < cuts.length := Nat.mod_lt _ hcp
        refine AW.reg cd19_11 fun K hK => ?_
        simp only [g19_11, bR, Nat.reduceEqDiff, reduceIte, Int.reduceBNe, Int.reduceBEq]
        simp only [hcn, hm, isE_getD hml, hLn, typR, useR, okR, bR, Nat.reduceEqDiff, reduceIte, Int.reduceBNe, Int.reduceBEq]
        refine .done (hK _ ?_); clear hK K; simp only [thenQ, blockQ]
        generalize hx : cuts.getD (i % cuts.length) 0 = x
        have b1 := Int.tmod_lt_of_pos x (show (0 : Int) < L.length by omega)
        have b2 : -(L.length : Int) < x.tmod L.length := by
          have := Int.tmod_lt_of_pos (-x) (show (0 : Int) < L.length by omega)
          rw [Int.neg_tmod] at this; omega
        have b3 : 0 ≤ (x.tmod L.length + L.length).tmod L.length := Int.tmod_nonneg _ (by omega)
        have hcut : ((cutAt cuts i L.length : Nat) : Int) = (x.tmod L.length + L.length).tmod L.length := by
          simp only [cutAt, if_pos hcp, hx]; omega
        rw [wrap_id _ (by omega) (by omega), ← hcut]
        refine Sub.of_lists ?_ ?_ ?_ ?_ <;> simp [subT, subO, onlyT, onlyO, isIn, look_cons, lookO_cons, lookO_nil, AV.only, AV.onlys, AO.only, onlys_map, onlys_append, e_only, e_int, e_bool]
      · have hcp : cuts.length = 0 := by simpa using h
        refine AW.skip ?_; simp only [thenQ, blockQ, reduceIte, Nat.reduceEqDiff]
        have : cutAt cuts i L.length = 0 := by simp [cutAt, hcp]
        rw [this]
        refine Sub.of_lists ?_ ?_ ?_ ?_ <;> simp [subT, subO, onlyT, onlyO, isIn, look_cons, lookO_cons, lookO_nil, AV.only, AV.onlys, AO.only, onlys_map, onlys_append, e_only, e_int, e_bool]
    simp only [thenQ, blockQ]
    refine AW.sub hB ?_
    have hin := hLi (L.getD (cutAt cuts i L.length) 0) (by rw [List.getD_eq_getElem?_getD, List.getElem?_eq_getElem hcl]; exact List.getElem_mem hcl)
    refine AW.reg cd19_12 fun K hK => ?_
    simp only [g19_12, bR, Nat.reduceEqDiff, reduceIte, Int.reduceBNe, Int.reduceBEq]
    simp only [isE_getD hcl, typR, useR, okR, bR, Nat.reduceEqDiff, reduceIte, Int.reduceBNe, Int.reduceBEq]
    have hsh : IntKind.i64.wrap (1 * 2 ^ min (L.getD (cutAt cuts i L.length) 0).toNat IntKind.i64.bits) = wornV w a cuts i := hV.symm
    rw [if_pos hin.1, hsh]
    simp only [typR, useR, okR, inB_nat 1 (wornUp w a cuts i) hi6 rfl, atL_g (wornUp w a cuts i) hi6, get_g (wornUp w a cuts i) hi6, stR3_g (wornUp w a cuts i) hi6, bR, Nat.reduceEqDiff, reduceIte, Int.reduceBNe, Int.reduceBEq]
    refine .done (hK _ ?_); clear hK K; simp only [thenQ, blockQ]
    refine AW.reg cd19_13 fun K hK => ?_
    simp only [g19_13, bR, Nat.reduceEqDiff, reduceIte, Int.reduceBNe, Int.reduceBEq]
    refine .done (hK _ ?_); clear hK K; simp only [thenQ, blockQ]
    refine ⟨i + 1, by omega, by omega, ?_⟩
    rw [wrap_id _ (by omega) (by omega), wornUp]
    refine Sub.of_lists ?_ ?_ ?_ ?_ <;> simp [subT, subO, onlyT, onlyO, isIn, look_cons, lookO_cons, lookO_nil, AV.only, AV.onlys, AO.only, onlys_map, onlys_append, e_only, e_int, e_bool]
  · have h6 : i = 6 := by simp at h; omega
    subst h6
    refine AW.exit ?_; simp only [thenQ, blockQ, reduceIte, Nat.reduceEqDiff]
    refine AW.seq (AW.reg cd19_14 fun K hK => ?_)
    simp only [g19_14, bR, Nat.reduceEqDiff, reduceIte, Int.reduceBNe, Int.reduceBEq]
    simp only [typR, stR3_6, bR, Nat.reduceEqDiff, reduceIte, Int.reduceBNe, Int.reduceBEq]
    refine .done (hK _ ?_); clear hK K; simp only [thenQ, blockQ]
    refine AW.ret ?_
    simp only [blockQ, thenQ, bR, Nat.reduceEqDiff, reduceIte, Int.reduceBNe, Int.reduceBEq]
    simp only [typR, e_fin, bR, Nat.reduceEqDiff, reduceIte, Int.reduceBNe, Int.reduceBEq]
    simp [wornR, hw, ha, e_int]
end Go.Proofs.Ytkjkbpgdpnapfaa

/-
  THE LAW's OWN CHECK OF THE BOOK IT KNOWS, BY CONTRACT: sane.
-/
namespace Go.Proofs.Ytkjkbpgdpnapfaa
open Go Go.Abs
open Go.Abs.Enc (enc)
def rd1 : Arr 6 Int := a6 31 1 1 1 1 31
def wn1 : Arr 6 Int := a6 16 1 1 1 1 1
theorem sOwn : ownersOf bookM rd1 = ([1, 2, 3], 0) := by decide +kernel
theorem sLook : lookOf bookM rd1 = ([0], 0) := by decide +kernel
theorem sLooked : lookedOf bookM rd1 wn1 [0] = ([3], 0) := by decide +kernel
theorem sDist : distR bookM.wear (a6 2 1 0 0 0 0) (a6 3 2 0 0 0 0) = (2, 0) := by decide +kernel
theorem sWorn1 : (wornR bookM.wear (a6 3 1 0 0 0 0) [1, 0]).1 = wn1 := arr_ext (by decide +kernel)
theorem sWorn2 : (wornR bookM.wear (a6 3 1 0 0 0 0) [1, 0]).2 = 0 := by decide +kernel
theorem sNextK : nextK bookM = some 2 := find_range _ (by omega) (by decide +kernel) (fun j hj => by
  match j, hj with
  | 0, _ => decide +kernel
  | 1, _ => decide +kernel
  | n + 2, h => exact absurd h (by omega))
theorem sNext1 : (nextOf bookM).1 = a6 0 0 0 0 0 2 := by
  have h1 : okM bookM = true := by decide +kernel
  have h2 : ¬ bookM.given.length = 40 := by decide +kernel
  simp only [nextOf, h1, if_true, if_neg h2, sNextK]
  exact arr_ext (by decide +kernel)
theorem sNext2 : (nextOf bookM).2 = 0 := by
  have h1 : okM bookM = true := by decide +kernel
  have h2 : ¬ bookM.given.length = 40 := by decide +kernel
  simp only [nextOf, h1, if_true, if_neg h2, sNextK]
theorem F21 : Ctr Try.prog 21 [] (enc true) := by
  refine Ctr.mk' Try.func21 ca21 cc21 cr21 (Nat.le_of_ble_eq_true rfl) (fun hwf W0 D0 E1 => ?_)
  simp only [c21, r21, idx, Nat.zero_add, Nat.reduceAdd]
  refine AW.seq (AW.reg cd21_0 fun K hK => ?_)
  simp only [g21_0, bR, Nat.reduceEqDiff, reduceIte, Int.reduceBNe, Int.reduceBEq]
  refine .done (hK _ ?_); clear hK K; simp only [thenQ, blockQ]
  refine AW.seq (AW.reg cd21_1 fun K hK => ?_)
  simp only [g21_1, bR, Nat.reduceEqDiff, reduceIte, Int.reduceBNe, Int.reduceBEq]
  refine .lead _ F82 ?_
  simp only [e_a5, bR, Nat.reduceEqDiff, reduceIte, Int.reduceBNe, Int.reduceBEq]
  rw [stR3_ok (e_isVal _) (by rw [e_okS]; rfl) ((e_sh _).trans rfl)]
  simp only [setAt_nil, bR, Nat.reduceEqDiff, reduceIte, Int.reduceBNe, Int.reduceBEq]
  refine .done (hK _ ?_); clear hK K; simp only [thenQ, blockQ]
  refine AW.seq (AW.reg cd21_2 fun K hK => ?_)
  simp only [g21_2, bR, Nat.reduceEqDiff, reduceIte, Int.reduceBNe, Int.reduceBEq]
  simp only [bld6, e_a6, stR3_6, bR, Nat.reduceEqDiff, reduceIte, Int.reduceBNe, Int.reduceBEq]
  refine .done (hK _ ?_); clear hK K; simp only [thenQ, blockQ]
  refine AW.seq (AW.reg cd21_3 fun K hK => ?_)
  simp only [g21_3, bR, Nat.reduceEqDiff, reduceIte, Int.reduceBNe, Int.reduceBEq]
  try simp only [typR, useR, okR, e_fin, bR, Nat.reduceEqDiff, reduceIte, Int.reduceBNe, Int.reduceBEq]
  refine .lead _ (F26 bookM rd1) ?_
  simp only [sOwn, typR, bR, Nat.reduceEqDiff, reduceIte, Int.reduceBNe, Int.reduceBEq]
  refine .done (hK _ ?_); clear hK K; simp only [thenQ, blockQ]
  refine AW.seq (AW.reg cd21_4 fun K hK => ?_)
  simp only [g21_4, bR, Nat.reduceEqDiff, reduceIte, Int.reduceBNe, Int.reduceBEq]
  try simp only [typR, useR, okR, e_fin, bR, Nat.reduceEqDiff, reduceIte, Int.reduceBNe, Int.reduceBEq]
  refine .lead _ (F12 bookM rd1) ?_
  simp only [sLook, typR, bR, Nat.reduceEqDiff, reduceIte, Int.reduceBNe, Int.reduceBEq]
  refine .done (hK _ ?_); clear hK K; simp only [thenQ, blockQ]
  refine AW.seq (AW.reg cd21_5 fun K hK => ?_)
  simp only [g21_5, bR, Nat.reduceEqDiff, reduceIte, Int.reduceBNe, Int.reduceBEq]
  simp only [typR, useR, okR, e_fin, bld6, e_a6, bR, Nat.reduceEqDiff, reduceIte, Int.reduceBNe, Int.reduceBEq]
  refine .lead _ (F14 bookM rd1 wn1 [0]) ?_
  simp only [sLooked, typR, bR, Nat.reduceEqDiff, reduceIte, Int.reduceBNe, Int.reduceBEq]
  refine .done (hK _ ?_); clear hK K; simp only [thenQ, blockQ]
  refine AW.seq (AW.reg cd21_6 fun K hK => ?_)
  simp only [g21_6, bR, Nat.reduceEqDiff, reduceIte, Int.reduceBNe, Int.reduceBEq]
  try simp only [typR, useR, okR, e_fin, bR, Nat.reduceEqDiff, reduceIte, Int.reduceBNe, Int.reduceBEq]
  refine .lead _ (F55 bookM) ?_
  simp only [sNext1, sNext2, typR, e_a6, stR3_6, bR, Nat.reduceEqDiff, reduceIte, Int.reduceBNe, Int.reduceBEq]
  refine .done (hK _ ?_); clear hK K; simp only [thenQ, blockQ]
  refine AW.seq (AW.reg cd21_7 fun K hK => ?_)
  simp only [g21_7, bR, Nat.reduceEqDiff, reduceIte, Int.reduceBNe, Int.reduceBEq]
  simp only [typR, useR, okR, e_fin, bld6, e_a6, bR, Nat.reduceEqDiff, reduceIte, Int.reduceBNe, Int.reduceBEq]
  refine .lead _ (F36 bookM.wear (a6 2 1 0 0 0 0) (a6 3 2 0 0 0 0)) ?_
  simp only [sDist, typR, bR, Nat.reduceEqDiff, reduceIte, Int.reduceBNe, Int.reduceBEq]
  refine .done (hK _ ?_); clear hK K; simp only [thenQ, blockQ]
  refine AW.seq (AW.reg cd21_8 fun K hK => ?_)
  simp only [g21_8, bR, Nat.reduceEqDiff, reduceIte, Int.reduceBNe, Int.reduceBEq]
  simp only [typR, useR, okR, e_fin, bld6, e_a6, bs2, bR, Nat.reduceEqDiff, reduceIte, Int.reduceBNe, Int.reduceBEq]
  refine .lead _ (F19 bookM.wear (a6 3 1 0 0 0 0) [1, 0]) ?_
  simp only [sWorn1, sWorn2, typR, e_a6, stR3_6, bR, Nat.reduceEqDiff, reduceIte, Int.reduceBNe, Int.reduceBEq]
  refine .done (hK _ ?_); clear hK K; simp only [thenQ, blockQ]
  refine AW.seq (AW.reg cd21_9 fun K hK => ?_)
  simp only [g21_9, bR, Nat.reduceEqDiff, reduceIte, Int.reduceBNe, Int.reduceBEq]
  try simp only [typR, useR, okR, e_fin, bR, Nat.reduceEqDiff, reduceIte, Int.reduceBNe, Int.reduceBEq]
  refine .done (hK _ ?_); clear hK K; simp only [thenQ, blockQ]
  refine AW.seq (AW.reg cd21_10 fun K hK => ?_)
  simp only [g21_10, bR, Nat.reduceEqDiff, reduceIte, Int.reduceBNe, Int.reduceBEq]
  simp only [typR, useR, okR, e_fin, bs3, bR, Nat.reduceEqDiff, reduceIte, Int.reduceBNe, Int.reduceBEq]
  refine .flat _ (F16 [1, 2, 3] [1, 2, 3]) rfl ?_
  simp only [typR, useR, okR, e_fin, decide_true, bR, Nat.reduceEqDiff, reduceIte, Int.reduceBNe, Int.reduceBEq]
  refine .flat _ (F16 [0] [0]) rfl ?_
  simp only [typR, useR, okR, e_fin, decide_true, bR, Nat.reduceEqDiff, reduceIte, Int.reduceBNe, Int.reduceBEq]
  refine .flat _ (F16 [3] [3]) rfl ?_
  simp only [typR, useR, okR, e_fin, decide_true, bld6, e_a6, eqE_arr, bR, Nat.reduceEqDiff, reduceIte, Int.reduceBNe, Int.reduceBEq]
  refine .done (hK _ ?_); clear hK K; simp only [thenQ, blockQ]
  refine AW.ret ?_
  simp only [blockQ, thenQ, bR, Nat.reduceEqDiff, reduceIte, Int.reduceBNe, Int.reduceBEq]
  rfl
end Go.Proofs.Ytkjkbpgdpnapfaa

/-
  FUNCTIONS OF THE REFERENCE BY CONTRACT: Wears.
-/
namespace Go.Proofs.Ytkjkbpgdpnapfaa
open Go Go.Abs
open Go.Abs.Enc (enc)
def zero5 : Arr 5 Int := ⟨List.replicate 5 0, rfl⟩
theorem e_zero5 : AV.agg [.int .i64 0, .int .i64 0, .int .i64 0, .int .i64 0, .int .i64 0] = enc zero5 := rfl
def bor (a b : Int) : Int := IntKind.i64.wrap ((BitVec.ofInt IntKind.i64.bits a ||| BitVec.ofInt IntKind.i64.bits b).toNat : Int)
def wearAt (c : List Int) (k : Nat) (x : Arr 5 Int) : Arr 5 Int :=
  if at' c k % 12 < 5 then upd (upd x k (shl 1 k)) k (bor ((upd x k (shl 1 k)).g k) (shl 1 (at' c k % 12).toNat)) else upd x k (shl 1 k)
def wears (c : List Int) : Nat → Arr 5 Int
  | 0 => zero5
  | k + 1 => wearAt c k (wears c k)
theorem F34 (c : List Int) (hc : c.length ≤ 4611686018427387904) : Ctr Try.prog 34 [enc c] (enc (wears c 5)) := by
  refine Ctr.mk' Try.func34 ca34 cc34 cr34 (Nat.le_of_ble_eq_true rfl) (fun hwf W0 D0 E1 => ?_)
  simp only [c34, r34, idx, Nat.zero_add, Nat.reduceAdd]
  refine AW.seq (AW.reg cd34_0 fun K hK => ?_)
  simp only [g34_0, bR, Nat.reduceEqDiff, reduceIte, Int.reduceBNe, Int.reduceBEq]
  refine .done (hK _ ?_); clear hK K; simp only [thenQ, blockQ]
  refine AW.seq (AW.reg cd34_1 fun K hK => ?_)
  simp only [g34_1, bR, Nat.reduceEqDiff, reduceIte, Int.reduceBNe, Int.reduceBEq]
  simp only [e_zero5]
  refine .done (hK _ ?_); clear hK K; simp only [thenQ, blockQ]
  refine AW.seq (AW.seq ?_)
  refine AW.reg cd34_2 fun K hK => ?_
  simp only [g34_2, bR, Nat.reduceEqDiff, reduceIte, Int.reduceBNe, Int.reduceBEq]
  refine .done (hK _ ?_); clear hK K; simp only [thenQ, blockQ]
  refine AW.block (AW.loop (fun k : Nat => mkA [(0, enc c), (2, .ptr 2 []), (3, .ptr 3 []), (4, .int .i64 k)] [(2, .box (enc zero5)), (3, .box (enc (wears c k)))]) (fun k => k ≤ 5) (fun k => 5 - k) 0 (by omega) ?_ (fun k hk => ?_))
  · refine Sub.of_lists ?_ ?_ ?_ ?_ <;> simp [subT, subO, onlyT, onlyO, isIn, look_cons, lookO_cons, lookO_nil, AV.only, AV.onlys, AO.only, onlys_map, onlys_append, e_only, e_int, e_bool]
    all_goals rfl
  refine AW.seq (AW.seq ?_)
  refine AW.reg cd34_3 fun K hK => ?_
  simp only [g34_3, bR, Nat.reduceEqDiff, reduceIte, Int.reduceBNe, Int.reduceBEq]
  refine .done (hK _ ?_); clear hK K; simp only [thenQ, blockQ]
  refine AW.ite ?_
  simp only [condQ, bR, Nat.reduceEqDiff, reduceIte, Int.reduceBNe, Int.reduceBEq]
  refine ⟨fun h => ?_, fun h => ?_⟩
  · have hlt : k < 5 := by simp at h; omega
    refine AW.skip ?_; simp only [thenQ, blockQ, reduceIte, Nat.reduceEqDiff]
    refine AW.seq (AW.block ?_)
    refine AW.seq (AW.reg cd34_4 fun K hK => ?_)
    simp only [g34_4, bR, Nat.reduceEqDiff, reduceIte, Int.reduceBNe, Int.reduceBEq]
    simp only [useR, inB_nat 1 (wears c k) hlt rfl, atL_g (wears c k) hlt, stR3_g (wears c k) hlt, bR, Nat.reduceEqDiff, reduceIte, Int.reduceBNe, Int.reduceBEq]
    refine .done (hK _ ?_); clear hK K; simp only [thenQ, blockQ]
    refine AW.seq (AW.reg cd34_5 fun K hK => ?_)
    simp only [g34_5, bR, Nat.reduceEqDiff, reduceIte, Int.reduceBNe, Int.reduceBEq]
    simp only [e_fin, bR, Nat.reduceEqDiff, reduceIte, Int.reduceBNe, Int.reduceBEq]
    refine .flat _ (F25 c k hc) rfl ?_
    simp only [e_fin, bR, Nat.reduceEqDiff, reduceIte, Int.reduceBNe, Int.reduceBEq]
    refine .flat _ (F23 (at' c k) 12 (by omega) (by omega)) rfl ?_
    simp only [bR, Nat.reduceEqDiff, reduceIte, Int.reduceBNe, Int.reduceBEq]
    refine .done (hK _ ?_); clear hK K; simp only [thenQ, blockQ]
    refine AW.seq (AW.reg cd34_6 fun K hK => ?_)
    simp only [g34_6, bR, Nat.reduceEqDiff, reduceIte, Int.reduceBNe, Int.reduceBEq]
    refine .done (hK _ ?_); clear hK K; simp only [thenQ, blockQ]
    have h0 : 0 ≤ at' c k % 12 := Int.emod_nonneg _ (by omega)
    refine AW.ite ?_
    simp only [condQ, bR, Nat.reduceEqDiff, reduceIte, Int.reduceBNe, Int.reduceBEq]
    refine ⟨fun h => ?_, fun h => ?_⟩
    · have h5 : at' c k % 12 < 5 := by simpa using h
      have e1 : IntKind.i64.wrap (1 * 2 ^ min k IntKind.i64.bits) = shl 1 k := rfl
      refine AW.reg cd34_7 fun K hK => ?_
      simp only [g34_7, bR, Nat.reduceEqDiff, reduceIte, Int.reduceBNe, Int.reduceBEq]
      simp only [e1, useR, inB_nat 1 (upd (wears c k) k (shl 1 k)) hlt rfl, atL_g (upd (wears c k) k (shl 1 k)) hlt, h0, bR, Nat.reduceEqDiff, reduceIte, Int.reduceBNe, Int.reduceBEq]
      simp only [e1, useR, inB_nat 1 (upd (wears c k) k (shl 1 k)) hlt rfl, atL_g (upd (wears c k) k (shl 1 k)) hlt, stR3_g (upd (wears c k) k (shl 1 k)) hlt, h0, bR, Nat.reduceEqDiff, reduceIte, Int.reduceBNe, Int.reduceBEq]
      refine .done (hK _ ?_); clear hK K; simp only [thenQ, blockQ]
      refine AW.reg cd34_8 fun K hK => ?_
      simp only [g34_8, bR, Nat.reduceEqDiff, reduceIte, Int.reduceBNe, Int.reduceBEq]
      refine .done (hK _ ?_); clear hK K; simp only [thenQ, blockQ]
      refine ⟨k + 1, by omega, by omega, ?_⟩
      rw [wrap_id _ (by omega) (by omega)]
      simp only [wears, wearAt, if_pos h5]
      refine Sub.of_lists ?_ ?_ ?_ ?_ <;> simp [subT, subO, onlyT, onlyO, isIn, look_cons, lookO_cons, lookO_nil, AV.only, AV.onlys, AO.only, onlys_map, onlys_append, e_only, e_int, e_bool]
      all_goals simp [bor, shl]
    · have h5 : ¬ at' c k % 12 < 5 := by simpa using h
      refine AW.skip ?_; simp only [thenQ, blockQ, reduceIte, Nat.reduceEqDiff]
      refine AW.reg cd34_8 fun K hK => ?_
      simp only [g34_8, bR, Nat.reduceEqDiff, reduceIte, Int.reduceBNe, Int.reduceBEq]
      refine .done (hK _ ?_); clear hK K; simp only [thenQ, blockQ]
      refine ⟨k + 1, by omega, by omega, ?_⟩
      rw [wrap_id _ (by omega) (by omega)]
      simp only [wears, wearAt, if_neg h5]
      refine Sub.of_lists ?_ ?_ ?_ ?_ <;> simp [subT, subO, onlyT, onlyO, isIn, look_cons, lookO_cons, lookO_nil, AV.only, AV.onlys, AO.only, onlys_map, onlys_append, e_only, e_int, e_bool]
      all_goals simp [bor, shl]
  · have hge : k = 5 := by simp at h; omega
    subst hge
    refine AW.exit ?_; simp only [thenQ, blockQ, reduceIte, Nat.reduceEqDiff]
    refine AW.seq (AW.reg cd34_9 fun K hK => ?_)
    simp only [g34_9, bR, Nat.reduceEqDiff, reduceIte, Int.reduceBNe, Int.reduceBEq]
    simp only [typR, useR, bR, Nat.reduceEqDiff, reduceIte, Int.reduceBNe, Int.reduceBEq]
    rw [stR3_ok (e_isVal _) (by rw [e_okS]; rfl) ((e_sh _).trans (e_sh _).symm)]
    simp only [bR, Nat.reduceEqDiff, reduceIte, Int.reduceBNe, Int.reduceBEq]
    refine .done (hK _ ?_); clear hK K; simp only [thenQ, blockQ]
    refine AW.ret ?_
    simp only [blockQ, thenQ, bR, Nat.reduceEqDiff, reduceIte, Int.reduceBNe, Int.reduceBEq]
    simp only [typR, e_fin, bR, Nat.reduceEqDiff, reduceIte, Int.reduceBNe, Int.reduceBEq]
end Go.Proofs.Ytkjkbpgdpnapfaa

/-
  FUNCTIONS OF mark BY CONTRACT: Meet.
-/
namespace Go.Proofs.Ytkjkbpgdpnapfaa
open Go Go.Abs
open Go.Abs.Enc (enc)
def one (l : List Int) : Int := shl 1 (l.getD 0 0).toNat
end Go.Proofs.Ytkjkbpgdpnapfaa

/-
  FUNCTIONS OF THE REFERENCE BY CONTRACT: MeetError, Meets.
-/
namespace Go.Proofs.Ytkjkbpgdpnapfaa
open Go Go.Abs
open Go.Abs.Enc (enc)
structure Pair where
  a : Arr 6 Int
  b : Arr 6 Int
instance : Enc Pair where
  enc p := .agg [enc p.a, enc p.b]
  sz := 12
  sh := .many [.many (List.replicate 6 .one), .many (List.replicate 6 .one)]
  isA := true
  done p := by simp only [AV.done, AV.dones, Enc.done, Bool.and_self]
  size p := by simp only [AV.size, AV.sizes, e_size, e_szArr, e_szInt]
  shp p := by simp only [AV.sh, AV.shs, e_sh, e_shArr, e_shInt]
  agg _ := rfl
end Go.Proofs.Ytkjkbpgdpnapfaa

/-
  WHAT Meet RETURNS IS DUE (in plain data), and the law MarkCosts by contract.
-/
namespace Go.Proofs.Ytkjkbpgdpnapfaa
open Go Go.Abs
open Go.Abs.Enc (enc)
end Go.Proofs.Ytkjkbpgdpnapfaa

/-
  WHAT NUMBERS DESCRIBE IS IN ORDER (in plain data): wear, marks, single signs.
-/
namespace Go.Proofs.Ytkjkbpgdpnapfaa
open Go Go.Abs
open Go.Abs.Enc (enc)
theorem wear_facts : ∀ k j : Fin 5, (0 ≤ shl 1 k.1 ∧ shl 1 k.1 ≤ 31 ∧ bit (shl 1 k.1) k.1 = true) ∧ (0 ≤ bor (shl 1 k.1) (shl 1 j.1) ∧ bor (shl 1 k.1) (shl 1 j.1) ≤ 31 ∧ bit (bor (shl 1 k.1) (shl 1 j.1)) k.1 = true) := by decide +kernel
theorem wears_g (c : List Int) : ∀ n, n ≤ 5 → ∀ j, j < n → 0 ≤ (wears c n).g j ∧ (wears c n).g j ≤ 31 ∧ bit ((wears c n).g j) j = true
  | 0, _ => fun j h => absurd h (by omega)
  | n + 1, hn => fun j hj => by
    have ih := wears_g c n (by omega)
    have hn5 : n < 5 := by omega
    simp only [wears, wearAt]
    have h0 : 0 ≤ at' c n % 12 := Int.emod_nonneg _ (by decide)
    split
    · rename_i h12
      rw [g_upd _ _ _ _ hn5]
      split
      · rename_i e
        subst e
        rw [g_upd _ _ _ _ hn5, if_pos rfl]
        exact (wear_facts ⟨n, hn5⟩ ⟨(at' c n % 12).toNat, by omega⟩).2
      · rw [g_upd _ _ _ _ hn5, if_neg (by assumption)]
        exact ih j (by omega)
    · rw [g_upd _ _ _ _ hn5]
      split
      · rename_i e
        subst e
        exact (wear_facts ⟨n, hn5⟩ ⟨0, by decide⟩).1
      · exact ih j (by omega)
theorem okWear_wears (c : List Int) : okWear (wears c 5) = true := by
  simp only [okWear, List.all_eq_true, List.mem_range, Bool.and_eq_true]
  intro k hk
  obtain ⟨h1, h2, h3⟩ := wears_g c 5 (Nat.le_refl _) k hk
  simp [inR, h1, h2, h3]
theorem nd_nat (k : Nat) : nd (k : Int) 1 = ((k / 5 : Nat) : Int) ∧ nd (k : Int) 2 = ((k / 5 / 5 : Nat) : Int) ∧ nd (k : Int) 3 = ((k / 5 / 5 / 5 : Nat) : Int) ∧ nd (k : Int) 4 = ((k / 5 / 5 / 5 / 5 : Nat) : Int) ∧ nd (k : Int) 5 = ((k / 5 / 5 / 5 / 5 / 5 : Nat) : Int) := by
  have h : ∀ n : Nat, (n : Int).tdiv 5 = ((n / 5 : Nat) : Int) := fun n => Int.ofNat_tdiv n 5
  simp only [nd, h, and_self]
theorem digits_dgs (k : Nat) : digits (k : Int) 6 = dgs k := by
  obtain ⟨h1, h2, h3, h4, h5⟩ := nd_nat k
  have h : ∀ n : Nat, (n : Int).tmod 5 = ((n % 5 : Nat) : Int) := fun n => Int.ofNat_tmod n 5
  have h0 : nd (k : Int) 0 = k := rfl
  refine arr_ext ?_
  simp only [digits, upd, dgs, dg, h0, h1, h2, h3, h4, h5, h]
  rfl
theorem okMark_digits (n : Int) : okMark (digits (n % 15625) 6) = true := by
  have h0 : 0 ≤ n % 15625 := Int.emod_nonneg _ (by decide)
  have e : n % 15625 = (((n % 15625).toNat : Nat) : Int) := by omega
  rw [e, digits_dgs]
  exact okMark_dgs _
end Go.Proofs.Ytkjkbpgdpnapfaa

/-
  THE BOOK THAT NUMBERS DESCRIBE (in plain data): it is in order.
-/
namespace Go.Proofs.Ytkjkbpgdpnapfaa
open Go Go.Abs
open Go.Abs.Enc (enc)
theorem okAt_iff {m : Marks} {i : Nat} : okAt m i = true ↔ (1 ≤ (gv m i).owner ∧ (gv m i).owner ≤ 99) ∧ okMark (gv m i).mark = true ∧ (i = 0 ∨ (gv m (i - 1)).owner < (gv m i).owner) ∧ ∀ j, j < i → tooNear m (gv m j).mark (gv m i).mark = false := by
  simp only [okAt, inR, Bool.and_eq_true, Bool.or_eq_true, decide_eq_true_eq, beq_iff_eq, List.all_eq_true, List.mem_range, Bool.not_eq_true']
theorem gv_left {w : Arr 5 Int} {f : Int} {l : List Given} {g : Given} {i : Nat} (h : i < l.length) : gv ⟨w, f, l ++ [g]⟩ i = gv ⟨w, f, l⟩ i := by
  simp only [gv, List.getD_eq_getElem?_getD, List.getElem?_append_left h]
theorem gv_last {w : Arr 5 Int} {f : Int} {l : List Given} {g : Given} : gv ⟨w, f, l ++ [g]⟩ l.length = g := by
  simp [gv, List.getD_eq_getElem?_getD]
def madeG (c : List Int) (i : Nat) (o : Int) : Given := ⟨o, digits (IntKind.i64.wrap (IntKind.i64.wrap (c.getD i 0 * 7) + i * 2503) % 15625) 6⟩
def madeStep (c : List Int) (i : Nat) (p : Int × List Given) : Int × List Given :=
  (p.1 + (1 + c.getD i 0 % 4), if p.2.any (fun h => tooNear ⟨wears c 5, at' c 5 % 2, p.2⟩ h.mark (madeG c i 0).mark) then p.2 else p.2 ++ [madeG c i (p.1 + (1 + c.getD i 0 % 4))])
def madeUp (c : List Int) : Nat → Int × List Given
  | 0 => (0, [])
  | i + 1 => if i < c.length ∧ (madeUp c i).2.length < 9 then madeStep c i (madeUp c i) else madeUp c i
def madeM (c : List Int) (n : Nat) : Marks := ⟨wears c 5, at' c 5 % 2, (madeUp c n).2⟩
/-- The book that numbers describe. -/
def made (c : List Int) : Marks := madeM c 12
theorem madeUp_stop {c : List Int} {i : Nat} (h : ¬ (i < c.length ∧ (madeUp c i).2.length < 9)) : ∀ n, i ≤ n → madeUp c n = madeUp c i
  | 0, hn => by have : i = 0 := by omega
                subst this; rfl
  | n + 1, hn => by
    by_cases e : i = n + 1
    · subst e; rfl
    · have ih := madeUp_stop h n (by omega)
      simp only [madeUp, ih]
      rw [if_neg]
      intro hh; exact h ⟨by omega, hh.2⟩
theorem mod4 (n : Int) : 0 ≤ n % 4 ∧ n % 4 < 4 := ⟨Int.emod_nonneg _ (by decide), Int.emod_lt_of_pos _ (by decide)⟩
theorem made_ok (c : List Int) : ∀ n, (0 ≤ (madeUp c n).1 ∧ (madeUp c n).1 ≤ 4 * n) ∧ (madeUp c n).2.length ≤ 9 ∧ (madeUp c n).2.length ≤ n ∧ (∀ i, i < (madeUp c n).2.length → (gv (madeM c n) i).owner ≤ (madeUp c n).1) ∧ (n ≤ 12 → ∀ i, i < (madeUp c n).2.length → okAt (madeM c n) i = true)
  | 0 => by simp [madeUp]
  | n + 1 => by
    obtain ⟨h1, h2, h3, h4, h5⟩ := made_ok c n
    have m4 := mod4 (c.getD n 0)
    by_cases hc : n < c.length ∧ (madeUp c n).2.length < 9
    · have hM : madeM c n = ⟨wears c 5, at' c 5 % 2, (madeUp c n).2⟩ := rfl
      have hM1 : madeM c (n + 1) = ⟨wears c 5, at' c 5 % 2, (madeUp c (n + 1)).2⟩ := rfl
      have hU : madeUp c (n + 1) = madeStep c n (madeUp c n) := by simp only [madeUp, if_pos hc]
      rw [hM1, hU]
      rw [hM] at h4 h5
      generalize madeUp c n = p at h1 h2 h3 h4 h5 hc
      obtain ⟨o, l⟩ := p
      simp only at h1 h2 h3 h4 h5 hc
      simp only [madeStep]
      split
      · refine ⟨by omega, h2, by omega, fun i hi => ?_, fun hn i hi => ?_⟩
        · have := h4 i hi; omega
        · exact h5 (by omega) i hi
      · rename_i hany
        have hnear : ∀ g ∈ l, tooNear ⟨wears c 5, at' c 5 % 2, l⟩ g.mark (madeG c n 0).mark = false := by
          intro g hg
          cases hh : tooNear ⟨wears c 5, at' c 5 % 2, l⟩ g.mark (madeG c n 0).mark with
          | false => rfl
          | true => exact absurd (List.any_eq_true.2 ⟨g, hg, hh⟩) hany
        have ow : (madeG c n (o + (1 + c.getD n 0 % 4))).owner = o + (1 + c.getD n 0 % 4) := rfl
        have mk : (madeG c n (o + (1 + c.getD n 0 % 4))).mark = (madeG c n 0).mark := rfl
        generalize hg : madeG c n (o + (1 + c.getD n 0 % 4)) = g at ow mk
        have hmk : okMark g.mark = true := by rw [mk]; exact okMark_digits _
        refine ⟨by omega, by simp; omega, by simp; omega, fun i hi => ?_, fun hn i hi => ?_⟩
        · simp only [List.length_append, List.length_singleton] at hi
          by_cases e : i = l.length
          · subst e; rw [gv_last]; omega
          · rw [gv_left (by omega)]; have := h4 i (by omega); omega
        · simp only [List.length_append, List.length_singleton] at hi
          by_cases e : i = l.length
          · subst e
            rw [okAt_iff, gv_last]
            refine ⟨by omega, hmk, ?_, fun j hj => ?_⟩
            · by_cases e0 : l.length = 0
              · exact .inl e0
              · right
                rw [gv_left (by omega), ow]
                have := h4 (l.length - 1) (by omega)
                omega
            · rw [gv_left hj, mk]
              have := hnear (gv ⟨wears c 5, at' c 5 % 2, l⟩ j) (by rw [← gv_eq hj]; exact List.getElem_mem hj)
              exact this
          · have hi' : i < l.length := by omega
            have := h5 (by omega) i hi'
            rw [okAt_iff] at this ⊢
            rw [gv_left hi']
            refine ⟨this.1, this.2.1, ?_, fun j hj => ?_⟩
            · rcases this.2.2.1 with h | h
              · exact .inl h
              · right; rw [gv_left (by omega)]; exact h
            · rw [gv_left (by omega)]; exact this.2.2.2 j hj
    · have hU : madeUp c (n + 1) = madeUp c n := by simp only [madeUp, if_neg hc]
      have hM : madeM c (n + 1) = madeM c n := by simp only [madeM, hU]
      rw [hU, hM]
      exact ⟨by omega, h2, by omega, h4, fun hn => h5 (by omega)⟩
theorem okM_madeM (c : List Int) {n : Nat} (hn : n ≤ 12) : okM (madeM c n) = true := by
  obtain ⟨h1, h2, h3, h4, h5⟩ := made_ok c n
  have m2 : 0 ≤ at' c 5 % 2 ∧ at' c 5 % 2 < 2 := ⟨Int.emod_nonneg _ (by decide), Int.emod_lt_of_pos _ (by decide)⟩
  have e1 : inR 0 2 (at' c 5 % 2) = true := by simp [inR, m2.1]; omega
  have e2 : decide ((madeUp c n).2.length ≤ 40) = true := by simp; omega
  have e3 : (List.range (madeUp c n).2.length).all (okAt (madeM c n)) = true := by
    simp only [List.all_eq_true, List.mem_range]; exact h5 hn
  simp only [madeM] at e3
  simp only [okM, madeM, okWear_wears, e1, e3, Bool.true_and, Bool.and_true]
  exact e2
theorem okM_made (c : List Int) : okM (made c) = true := okM_madeM c (Nat.le_refl _)
theorem made_len (c : List Int) : (made c).given.length ≤ 9 := (made_ok c 12).2.1
theorem made_owner (c : List Int) : ∀ g ∈ (made c).given, g.owner ≤ 48 := by
  intro g hg
  obtain ⟨i, hi, rfl⟩ := List.getElem_of_mem hg
  obtain ⟨h1, _, _, h4, _⟩ := made_ok c 12
  have := h4 i hi
  rw [gv_eq hi]
  have e : gv (made c) i = gv (madeM c 12) i := rfl
  rw [e]; omega
end Go.Proofs.Ytkjkbpgdpnapfaa

/-
  FUNCTIONS OF THE REFERENCE BY CONTRACT: Made.
-/
namespace Go.Proofs.Ytkjkbpgdpnapfaa
open Go Go.Abs
open Go.Abs.Enc (enc)
theorem bldM2 (w : Arr 5 Int) (n : Int) : setParts [enc (a5 0 0 0 0 0), .int .i64 0, .nils 7] [(0, enc w), (1, .int .i64 n)] = some [enc w, .int .i64 n, .nils 7] := by
  have h1 : ((enc w : AV).isVal = true ∧ (enc w : AV).size = (enc (a5 0 0 0 0 0)).size) := ⟨e_isVal _, by rw [e_size, e_size]⟩
  rw [setParts_cons (z := enc (a5 0 0 0 0 0)) rfl h1.1 h1.2, setParts_cons (v := .int .i64 n) (z := .int .i64 0) rfl rfl rfl]; rfl
theorem bookL (w : Arr 5 Int) (n : Int) (x : AV) (h1 : x.isVal = true) (h2 : x.sh = .one) (h3 : x.size = 1) : (AV.agg [enc w, .int .i64 n, x]).isVal = true ∧ okLd (some 7) (AV.agg [enc w, .int .i64 n, x]) = true ∧ (AV.agg [enc w, .int .i64 n, x]).sh = .many [.many (List.replicate 5 .one), .one, .one] := by
  refine ⟨rfl, ?_, ?_⟩
  · simp [okLd, AV.isAgg, AV.size, AV.sizes, e_size, h3, e_szArr, e_szInt]
  · simp [AV.sh, AV.shs, e_sh, h2, e_shArr, e_shInt]
theorem offB (w : Arr 5 Int) (n : Int) (x : AV) (v : AV) : offR [enc w, .int .i64 n, x] 2 6 v = some v := offR_eq (Nat.le_of_ble_eq_true rfl) (by simp [AV.sizes, AV.size, e_size, e_szArr, e_szInt])
theorem F22 (c : List Int) (hl : c.length ≤ 4611686018427387904) : Ctr Try.prog 22 [enc c] (enc (made c)) := by
  refine Ctr.mk' Try.func22 ca22 cc22 cr22 (Nat.le_of_ble_eq_true rfl) (fun hwf W0 D0 E1 => ?_)
  simp only [c22, r22, idx, Nat.zero_add, Nat.reduceAdd]
  refine AW.seq (AW.reg cd22_0 fun K hK => ?_)
  simp only [g22_0, bR, Nat.reduceEqDiff, reduceIte, Int.reduceBNe, Int.reduceBEq]
  refine .done (hK _ ?_); clear hK K; simp only [thenQ, blockQ]
  obtain ⟨w, hw⟩ : ∃ w, w = wears c 5 := ⟨_, rfl⟩
  obtain ⟨f, hf⟩ : ∃ f, f = at' c 5 % 2 := ⟨_, rfl⟩
  refine AW.seq (AW.reg cd22_1 fun K hK => ?_)
  simp only [g22_1, bR, Nat.reduceEqDiff, reduceIte, Int.reduceBNe, Int.reduceBEq]
  try simp only [typR, useR, okR, e_fin, bR, Nat.reduceEqDiff, reduceIte, Int.reduceBNe, Int.reduceBEq]
  refine .lead _ (F34 c hl) ?_
  try simp only [typR, useR, okR, e_fin, bR, Nat.reduceEqDiff, reduceIte, Int.reduceBNe, Int.reduceBEq]
  refine .flat _ (F25 c 5 hl) rfl ?_
  try simp only [typR, useR, okR, e_fin, bR, Nat.reduceEqDiff, reduceIte, Int.reduceBNe, Int.reduceBEq]
  refine .flat _ (F23 (at' c 5) 2 (by decide) (by decide)) rfl ?_
  simp only [e_a5, bldM2, ← hw, ← hf, bR, Nat.reduceEqDiff, reduceIte, Int.reduceBNe, Int.reduceBEq]
  obtain ⟨q1, q2, q3⟩ := bookL w f (.nils 7) rfl rfl rfl
  rw [stR3_ok q1 q2 (q3.trans (bookL (a5 0 0 0 0 0) 0 (.nils 7) rfl rfl rfl).2.2.symm)]
  simp only [setAt_nil, bR, Nat.reduceEqDiff, reduceIte, Int.reduceBNe, Int.reduceBEq]
  refine .done (hK _ ?_); clear hK K; simp only [thenQ, blockQ]
  refine AW.seq (AW.reg cd22_2 fun K hK => ?_)
  simp only [g22_2, bR, Nat.reduceEqDiff, reduceIte, Int.reduceBNe, Int.reduceBEq]
  refine .done (hK _ ?_); clear hK K; simp only [thenQ, blockQ]
  refine AW.seq (AW.seq ?_)
  refine AW.reg cd22_3 fun K hK => ?_
  simp only [g22_3, bR, Nat.reduceEqDiff, reduceIte, Int.reduceBNe, Int.reduceBEq]
  refine .done (hK _ ?_); clear hK K; simp only [thenQ, blockQ]
  refine AW.block (AW.loop (fun i : Nat => mkA [(0, enc c), (2, .ptr 2 []), (3, .ptr 3 []), (4, .int .i64 (madeUp c i).1), (5, .int .i64 i)] [(1, .row 43 7 ((madeUp c i).2.map enc)), (2, .box (.agg [enc (a5 0 0 0 0 0), .int .i64 0, .nils 7])), (3, .box (.agg [enc w, .int .i64 f, .own 1 (madeUp c i).2.length]))]) (fun i => i ≤ 12) (fun i => 12 - i) 0 (by omega) ?_ (fun i hi => ?_))
  · refine Sub.adoptBL 3 1 43 7 7 [2] (.agg [enc w, .int .i64 f, .nils 7]) ?_ rfl ?_ ?_
    · simp only [bR, Nat.reduceEqDiff, reduceIte, Int.reduceBNe, Int.reduceBEq]
    · simp only [bR, Nat.reduceEqDiff, reduceIte, Int.reduceBNe, Int.reduceBEq]
    · have e1 : (AV.agg [enc w, .int .i64 f, .nils 7]).setAt [2] (.own 1 0) = .agg [enc w, .int .i64 f, .own 1 0] := rfl
      rw [e1]
      simp only [madeUp, List.map_nil, List.length_nil]
      refine Sub.of_lists ?_ ?_ ?_ ?_ <;> simp [subT, subO, onlyT, onlyO, isIn, look_cons, lookO_cons, lookO_nil, AV.only, AV.onlys, AO.only, onlys_map, onlys_append, e_only, e_int, e_bool]
  obtain ⟨b1, b2, b3, _, _⟩ := made_ok c i
  have q4 := mod4 (c.getD i 0)
  have fin12 : ¬ (i < c.length ∧ i < 12 ∧ (madeUp c i).2.length < 9) → (made c).given = (madeUp c i).2 := by
    intro hn
    by_cases e : i = 12
    · subst e; rfl
    · have : madeUp c 12 = madeUp c i := madeUp_stop (fun hh => hn ⟨hh.1, by omega, hh.2⟩) 12 hi
      simp only [made, madeM, this]
  refine AW.seq (AW.seq ?_)
  refine AW.reg cd22_4 fun K hK => ?_
  simp only [g22_4, bR, Nat.reduceEqDiff, reduceIte, Int.reduceBNe, Int.reduceBEq]
  try simp only [typR, useR, okR, e_fin, bR, Nat.reduceEqDiff, reduceIte, Int.reduceBNe, Int.reduceBEq]
  generalize hz : decide ((i : Int) < c.length) = bz
  cases bz
  · have hout := fin12 (fun hh => by simp at hz; omega)
    try simp only [typR, useR, okR, e_fin, bR, Nat.reduceEqDiff, reduceIte, Int.reduceBNe, Int.reduceBEq]
    refine .done (hK _ ?_); clear hK K; simp only [thenQ, blockQ]
    refine AW.ite ?_
    simp only [condQ, bR, Nat.reduceEqDiff, reduceIte, Int.reduceBNe, Int.reduceBEq]
    refine ⟨fun h => ?_, fun h => ?_⟩
    · cases h
    refine AW.exit ?_; simp only [thenQ, blockQ, reduceIte, Nat.reduceEqDiff]
    refine AW.seq (AW.reg cd22_10 fun K hK => ?_)
    simp only [g22_10, bR, Nat.reduceEqDiff, reduceIte, Int.reduceBNe, Int.reduceBEq]
    obtain ⟨s1, s2, s3⟩ := bookL w f (.own 1 (madeUp c i).2.length) rfl rfl rfl
    simp only [s2, bR, Nat.reduceEqDiff, reduceIte, Int.reduceBNe, Int.reduceBEq]
    rw [stR3_ok s1 s2 (s3.trans (bookL (a5 0 0 0 0 0) 0 (.nils 7) rfl rfl rfl).2.2.symm)]
    simp only [setAt_nil, bR, Nat.reduceEqDiff, reduceIte, Int.reduceBNe, Int.reduceBEq]
    refine .done (hK _ ?_); clear hK K; simp only [thenQ, blockQ]
    refine AW.ret ?_
    simp only [blockQ, thenQ, bR, Nat.reduceEqDiff, reduceIte, Int.reduceBNe, Int.reduceBEq]
    simp only [s2, finO_enc (α := Given) 7 rfl rfl, typR, e_fin, bR, Nat.reduceEqDiff, reduceIte, Int.reduceBNe, Int.reduceBEq]
    have hfin : (⟨w, f, (madeUp c i).2⟩ : Marks) = made c := by rw [← hout, hw, hf]; rfl
    rw [e_M, hfin]
  have hic : i < c.length := by simpa using hz
  try simp only [typR, useR, okR, e_fin, bR, Nat.reduceEqDiff, reduceIte, Int.reduceBNe, Int.reduceBEq]
  generalize hz2 : decide ((i : Int) < 12) = bz
  cases bz
  · have hout := fin12 (fun hh => by simp at hz2; omega)
    try simp only [typR, useR, okR, e_fin, bR, Nat.reduceEqDiff, reduceIte, Int.reduceBNe, Int.reduceBEq]
    refine .done (hK _ ?_); clear hK K; simp only [thenQ, blockQ]
    refine AW.ite ?_
    simp only [condQ, bR, Nat.reduceEqDiff, reduceIte, Int.reduceBNe, Int.reduceBEq]
    refine ⟨fun h => ?_, fun h => ?_⟩
    · cases h
    refine AW.exit ?_; simp only [thenQ, blockQ, reduceIte, Nat.reduceEqDiff]
    refine AW.seq (AW.reg cd22_10 fun K hK => ?_)
    simp only [g22_10, bR, Nat.reduceEqDiff, reduceIte, Int.reduceBNe, Int.reduceBEq]
    obtain ⟨s1, s2, s3⟩ := bookL w f (.own 1 (madeUp c i).2.length) rfl rfl rfl
    simp only [s2, bR, Nat.reduceEqDiff, reduceIte, Int.reduceBNe, Int.reduceBEq]
    rw [stR3_ok s1 s2 (s3.trans (bookL (a5 0 0 0 0 0) 0 (.nils 7) rfl rfl rfl).2.2.symm)]
    simp only [setAt_nil, bR, Nat.reduceEqDiff, reduceIte, Int.reduceBNe, Int.reduceBEq]
    refine .done (hK _ ?_); clear hK K; simp only [thenQ, blockQ]
    refine AW.ret ?_
    simp only [blockQ, thenQ, bR, Nat.reduceEqDiff, reduceIte, Int.reduceBNe, Int.reduceBEq]
    simp only [s2, finO_enc (α := Given) 7 rfl rfl, typR, e_fin, bR, Nat.reduceEqDiff, reduceIte, Int.reduceBNe, Int.reduceBEq]
    have hfin : (⟨w, f, (madeUp c i).2⟩ : Marks) = made c := by rw [← hout, hw, hf]; rfl
    rw [e_M, hfin]
  have hi12 : i < 12 := by simp at hz2; omega
  simp only [offB, typR, useR, okR, e_fin, bR, Nat.reduceEqDiff, reduceIte, Int.reduceBNe, Int.reduceBEq]
  rw [lenE_own _ 1 _ 43 7 (madeUp c i).2 (by simp only [bR, Nat.reduceEqDiff, reduceIte, Int.reduceBNe, Int.reduceBEq]) rfl]
  simp only [typR, useR, okR, e_fin, bR, Nat.reduceEqDiff, reduceIte, Int.reduceBNe, Int.reduceBEq]
  generalize hz3 : decide (((madeUp c i).2.length : Int) < 9) = bz
  cases bz
  · have hout := fin12 (fun hh => by simp at hz3; omega)
    try simp only [typR, useR, okR, e_fin, bR, Nat.reduceEqDiff, reduceIte, Int.reduceBNe, Int.reduceBEq]
    refine .done (hK _ ?_); clear hK K; simp only [thenQ, blockQ]
    refine AW.ite ?_
    simp only [condQ, bR, Nat.reduceEqDiff, reduceIte, Int.reduceBNe, Int.reduceBEq]
    refine ⟨fun h => ?_, fun h => ?_⟩
    · cases h
    refine AW.exit ?_; simp only [thenQ, blockQ, reduceIte, Nat.reduceEqDiff]
    refine AW.seq (AW.reg cd22_10 fun K hK => ?_)
    simp only [g22_10, bR, Nat.reduceEqDiff, reduceIte, Int.reduceBNe, Int.reduceBEq]
    obtain ⟨s1, s2, s3⟩ := bookL w f (.own 1 (madeUp c i).2.length) rfl rfl rfl
    simp only [s2, bR, Nat.reduceEqDiff, reduceIte, Int.reduceBNe, Int.reduceBEq]
    rw [stR3_ok s1 s2 (s3.trans (bookL (a5 0 0 0 0 0) 0 (.nils 7) rfl rfl rfl).2.2.symm)]
    simp only [setAt_nil, bR, Nat.reduceEqDiff, reduceIte, Int.reduceBNe, Int.reduceBEq]
    refine .done (hK _ ?_); clear hK K; simp only [thenQ, blockQ]
    refine AW.ret ?_
    simp only [blockQ, thenQ, bR, Nat.reduceEqDiff, reduceIte, Int.reduceBNe, Int.reduceBEq]
    simp only [s2, finO_enc (α := Given) 7 rfl rfl, typR, e_fin, bR, Nat.reduceEqDiff, reduceIte, Int.reduceBNe, Int.reduceBEq]
    have hfin : (⟨w, f, (madeUp c i).2⟩ : Marks) = made c := by rw [← hout, hw, hf]; rfl
    rw [e_M, hfin]
  have hi9 : (madeUp c i).2.length < 9 := by simp at hz3; omega
  try simp only [typR, useR, okR, e_fin, bR, Nat.reduceEqDiff, reduceIte, Int.reduceBNe, Int.reduceBEq]
  refine .done (hK _ ?_); clear hK K; simp only [thenQ, blockQ]
  refine AW.ite ?_
  simp only [condQ, bR, Nat.reduceEqDiff, reduceIte, Int.reduceBNe, Int.reduceBEq]
  refine ⟨fun h => ?_, fun h => ?_⟩
  case refine_2.true.true.true.refine_2 => cases h
  have hbk : okBook ⟨w, f, (madeUp c i).2⟩ := by rw [hw, hf]; exact okM_book (okM_madeM c (by omega))
  have hstep : madeUp c (i + 1) = madeStep c i (madeUp c i) := by simp only [madeUp, if_pos (show i < c.length ∧ (madeUp c i).2.length < 9 from ⟨hic, hi9⟩)]
  generalize madeUp c i = p at *
  obtain ⟨o, l⟩ := p
  simp only at *
  refine AW.skip ?_; simp only [thenQ, blockQ, reduceIte, Nat.reduceEqDiff]
  refine AW.seq (AW.block ?_)
  refine AW.seq (AW.reg cd22_5 fun K hK => ?_)
  simp only [g22_5, bR, Nat.reduceEqDiff, reduceIte, Int.reduceBNe, Int.reduceBEq]
  simp only [isE_getD hic, typR, useR, okR, e_fin, bR, Nat.reduceEqDiff, reduceIte, Int.reduceBNe, Int.reduceBEq]
  refine .flat _ (F23 (c.getD i 0) 4 (by decide) (by decide)) rfl ?_
  try simp only [typR, useR, okR, e_fin, bR, Nat.reduceEqDiff, reduceIte, Int.reduceBNe, Int.reduceBEq]
  rw [wrap_id _ (show -9223372036854775808 ≤ 1 + c.getD i 0 % 4 by omega) (by omega), wrap_id _ (by omega) (by omega)]
  refine .done (hK _ ?_); clear hK K; simp only [thenQ, blockQ]
  obtain ⟨o2, ho2⟩ : ∃ o2, o2 = o + (1 + c.getD i 0 % 4) := ⟨_, rfl⟩
  rw [← ho2]
  refine AW.seq (AW.reg cd22_6 fun K hK => ?_)
  simp only [g22_6, bR, Nat.reduceEqDiff, reduceIte, Int.reduceBNe, Int.reduceBEq]
  simp only [isE_getD hic, typR, useR, okR, e_fin, bR, Nat.reduceEqDiff, reduceIte, Int.reduceBNe, Int.reduceBEq]
  rw [wrap_id ((i : Int) * 2503) (by omega) (by omega)]
  refine .flat _ (F23 _ 15625 (by decide) (by decide)) rfl ?_
  try simp only [typR, useR, okR, e_fin, bR, Nat.reduceEqDiff, reduceIte, Int.reduceBNe, Int.reduceBEq]
  refine .lead _ (F35 _) ?_
  have hmark : digits (IntKind.i64.wrap (IntKind.i64.wrap (c.getD i 0 * 7) + i * 2503) % 15625) 6 = (madeG c i 0).mark := rfl
  rw [hmark]
  obtain ⟨mk, hmk⟩ : ∃ mk, mk = (madeG c i 0).mark := ⟨_, rfl⟩
  rw [← hmk]
  simp only [e_a6, bldG, e_G, stR3_G, typR, useR, okR, e_fin, bR, Nat.reduceEqDiff, reduceIte, Int.reduceBNe, Int.reduceBEq]
  refine .done (hK _ ?_); clear hK K; simp only [thenQ, blockQ]
  obtain ⟨s1, s2, s3⟩ := bookL w f (.own 1 l.length) rfl rfl rfl
  have hokm : okMark mk = true := by rw [hmk]; exact okMark_digits _
  refine AW.seq (AW.reg cd22_7 fun K hK => ?_)
  simp only [g22_7, bR, Nat.reduceEqDiff, reduceIte, Int.reduceBNe, Int.reduceBEq]
  simp only [s2, finO_enc (α := Given) 7 rfl rfl, typR, useR, okR, e_M, e_fin, bR, Nat.reduceEqDiff, reduceIte, Int.reduceBNe, Int.reduceBEq]
  refine .flat _ (F83 ⟨w, f, l⟩ mk hbk hokm) rfl ?_
  obtain ⟨near, hnear⟩ : ∃ near, near = l.any (fun h => tooNear ⟨w, f, l⟩ h.mark mk) := ⟨_, rfl⟩
  have hst : madeUp c (i + 1) = (o2, if near then l else l ++ [⟨o2, mk⟩]) := by
    rw [hstep, madeStep, hnear, ho2, hmk, hw, hf]; rfl
  have hnear' : (l.any fun g => decide ((cnt (apartAt w g.mark mk) 6 : Int) ≤ IntKind.i64.wrap (2 * f))) = near := by rw [hnear]; rfl
  simp only [hnear', typR, useR, okR, e_fin, bR, Nat.reduceEqDiff, reduceIte, Int.reduceBNe, Int.reduceBEq]
  refine .done (hK _ ?_); clear hK K; simp only [thenQ, blockQ]
  cases near
  · rw [if_neg (by simp)] at hst
    refine AW.ite ?_
    simp only [condQ, bR, Nat.reduceEqDiff, reduceIte, Int.reduceBNe, Int.reduceBEq]
    refine ⟨fun h => ?_, fun h => ?_⟩
    · refine AW.reg cd22_8 fun K hK => ?_
      simp only [g22_8, bR, Nat.reduceEqDiff, reduceIte, Int.reduceBNe, Int.reduceBEq]
      simp only [offB, bsE_one 7 (⟨o2, mk⟩ : Given) rfl, typR, useR, okR, e_fin, bR, Nat.reduceEqDiff, reduceIte, Int.reduceBNe, Int.reduceBEq]
      rw [appR3_enc (α := Given) 43 7 56 1 rfl rfl (by simp) (by simp [maxLen]; omega) (by simp; omega)]
      simp only [offB, typR, useR, okR, e_fin, bR, Nat.reduceEqDiff, reduceIte, Int.reduceBNe, Int.reduceBEq]
      rw [stR3_ok (s := none) (v := .own 1 (l ++ [(⟨o2, mk⟩ : Given)]).length) (old := .own 1 l.length) rfl rfl rfl]
      have hset : (AV.agg [enc w, .int .i64 f, .own 1 l.length]).setAt [2] (.own 1 (l ++ [(⟨o2, mk⟩ : Given)]).length) = .agg [enc w, .int .i64 f, .own 1 (l ++ [(⟨o2, mk⟩ : Given)]).length] := rfl
      simp only [hset, bR, Nat.reduceEqDiff, reduceIte, Int.reduceBNe, Int.reduceBEq]
      refine .done (hK _ ?_); clear hK K; simp only [thenQ, blockQ]
      refine AW.reg cd22_9 fun K hK => ?_
      simp only [g22_9, bR, Nat.reduceEqDiff, reduceIte, Int.reduceBNe, Int.reduceBEq]
      refine .done (hK _ ?_); clear hK K; simp only [thenQ, blockQ]
      refine ⟨i + 1, by omega, by omega, ?_⟩
      rw [wrap_id _ (by omega) (by omega), hst]
      refine Sub.of_lists ?_ ?_ ?_ ?_ <;> simp [subT, subO, onlyT, onlyO, isIn, look_cons, lookO_cons, lookO_nil, AV.only, AV.onlys, AO.only, onlys_map, onlys_append, e_only, e_int, e_bool]
    · cases h
  · rw [if_pos rfl] at hst
    refine AW.ite ?_
    simp only [condQ, bR, Nat.reduceEqDiff, reduceIte, Int.reduceBNe, Int.reduceBEq]
    refine ⟨fun h => ?_, fun h => ?_⟩
    · cases h
    refine AW.skip ?_; simp only [thenQ, blockQ, reduceIte, Nat.reduceEqDiff]
    refine AW.reg cd22_9 fun K hK => ?_
    simp only [g22_9, bR, Nat.reduceEqDiff, reduceIte, Int.reduceBNe, Int.reduceBEq]
    refine .done (hK _ ?_); clear hK K; simp only [thenQ, blockQ]
    refine ⟨i + 1, by omega, by omega, ?_⟩
    rw [wrap_id _ (by omega) (by omega), hst]
    refine Sub.of_lists ?_ ?_ ?_ ?_ <;> simp [subT, subO, onlyT, onlyO, isIn, look_cons, lookO_cons, lookO_nil, AV.only, AV.onlys, AO.only, onlys_map, onlys_append, e_only, e_int, e_bool]
end Go.Proofs.Ytkjkbpgdpnapfaa

/-
  FUNCTIONS OF slices BY CONTRACT, over given marks: Insert.
-/
namespace Go.Proofs.Ytkjkbpgdpnapfaa
open Go Go.Abs
open Go.Abs.Enc (enc)
def ins (l : List Given) (i : Nat) (g : Given) : List Given := l.take i ++ g :: l.drop i
theorem ins_len {l : List Given} {i : Nat} (g : Given) (h : i ≤ l.length) : (ins l i g).length = l.length + 1 := by
  simp only [ins, List.length_append, List.length_take, List.length_cons, List.length_drop]; omega
theorem ins_end (l : List Given) (g : Given) : ins l l.length g = l ++ [g] := by simp [ins]
def insPost (l : List Given) (i : Nat) (g : Given) (k : Nat) : Post := fun r os' =>
  (∃ q, r = .view 1000000 [] 7 0 (l.length + 1) ∧ os' = rowG 1000000 (ins l i g) q) ∨ ∃ d q, (d = 25 ∨ d = 40) ∧ r = .view d [] 7 0 (l.length + 1) ∧ os' = rowG d (ins l i g) q ++ rowG 1000000 l k
theorem held2 {A : AState} {k k' : Nat} {c c' : AV} (h1 : A.o k = some (.box c)) (h2 : ∀ p, c.only p = true) (h1' : A.o k' = some (.box c')) (h2' : ∀ p, c'.only p = true) : ∀ n x, lookO [(k, .box c), (k', .box c')] n = some x → A.o n = some x ∧ x.only (isIn [(k, .box c), (k', .box c')]) = true ∧ x.fix = true := fun n x h => by
  simp only [lookO] at h
  split at h
  · rename_i hn
    subst hn
    simp only [Option.some.injEq] at h
    subst h
    exact ⟨h1, h2 _, rfl⟩
  · split at h
    · rename_i hn
      subst hn
      simp only [Option.some.injEq] at h
      subst h
      exact ⟨h1', h2' _, rfl⟩
    · cases h
theorem list_new (l : List Given) (i q : Nat) (g : Given) (h : i < l.length) (xs : List Given) (hx : xs = l.take i ++ (List.replicate (l.length + 1 - i) g0 ++ List.replicate q g0)) (ys : List Given) (hy : ys = xs.take i ++ ([g].take 1 ++ xs.drop (i + 1))) :
    ys.take (i + 1) ++ ((((l ++ List.replicate 0 g0).drop i).take (l.length - i)).take (l.length - i) ++ ys.drop (i + 1 + (l.length - i))) = ins l i g ++ List.replicate q g0 := by
  have e1 : xs.take i = l.take i := by rw [hx, List.take_append_of_le_length (by rw [List.length_take]; omega), List.take_take, Nat.min_self]
  have e2 : xs.drop (i + 1) = List.replicate (l.length - i + q) g0 := by
    have hl : (l.take i).length = i := by rw [List.length_take]; omega
    rw [hx, List.replicate_append_replicate, List.drop_append, hl, List.drop_eq_nil_of_le (by rw [hl]; omega), List.nil_append, List.drop_replicate]
    congr 1; omega
  have e3 : ys = (l.take i ++ [g]) ++ List.replicate (l.length - i + q) g0 := by rw [hy, e1, e2]; simp
  have hl2 : (l.take i ++ [g]).length = i + 1 := by rw [List.length_append, List.length_take]; simp; omega
  have e4 : ys.take (i + 1) = l.take i ++ [g] := by rw [e3, ← hl2, List.take_left]
  have e5 : ys.drop (i + 1 + (l.length - i)) = List.replicate q g0 := by
    rw [e3, List.drop_append, hl2, List.drop_eq_nil_of_le (by rw [hl2]; omega), List.nil_append, List.drop_replicate]
    congr 1; omega
  have e6 : (((l ++ List.replicate 0 g0).drop i).take (l.length - i)).take (l.length - i) = l.drop i := by
    rw [List.replicate_zero, List.append_nil, List.take_take, Nat.min_self, List.take_of_length_le (by rw [List.length_drop]; omega)]
  rw [e4, e5, e6]
  simp [ins]
theorem list_in (l : List Given) (i k : Nat) (g : Given) (h : i < l.length) (hk : 1 ≤ k) (xs : List Given) (hx : xs = l ++ List.replicate k g0) (ys : List Given) (hy : ys = xs.take (i + 1) ++ (((xs.drop i).take (l.length + 1 - i)).take (l.length - i) ++ xs.drop (i + 1 + (l.length - i)))) :
    ys.take i ++ ([g].take 1 ++ ys.drop (i + 1)) = ins l i g ++ List.replicate (k - 1) g0 := by
  have e1 : ((xs.drop i).take (l.length + 1 - i)).take (l.length - i) = l.drop i := by
    rw [List.take_take, Nat.min_eq_left (by omega), hx, List.drop_append_of_le_length (by omega), List.take_append_of_le_length (by rw [List.length_drop]; omega), List.take_of_length_le (by rw [List.length_drop]; omega)]
  have e2 : xs.drop (i + 1 + (l.length - i)) = List.replicate (k - 1) g0 := by
    rw [hx, List.drop_append, List.drop_eq_nil_of_le (by omega), List.nil_append, List.drop_replicate]
    congr 1; omega
  have hl : (xs.take (i + 1)).length = i + 1 := by rw [List.length_take, hx, List.length_append]; omega
  have e3 : ys.take i = l.take i := by
    rw [hy, List.take_append_of_le_length (by omega), List.take_take, Nat.min_eq_left (by omega), hx, List.take_append_of_le_length (by omega)]
  have e4 : ys.drop (i + 1) = l.drop i ++ List.replicate (k - 1) g0 := by
    rw [hy, e1, e2]
    exact List.drop_left' hl
  rw [e3, e4]
  simp [ins]
theorem F122 (l : List Given) (i : Nat) (g : Given) (k : Nat) (hi : i ≤ l.length) (hn : l ≠ []) (hlen : l.length ≤ 1000) :
    CtrO Try.prog 122 [.view 1000000 [] 7 0 l.length, enc (i : Int), enc [g]] (rowG 1000000 l k) (insPost l i g k) := by
  refine CtrO.mk' Try.func122 ca122 cc122 cr122 (Nat.le_of_ble_eq_true rfl) (Nat.le_of_ble_eq_true rfl) (fun m hm => by rw [isIn_one.1 hm]; exact Nat.le_refl _) (fun hwf W0 D0 E1 => ?_)
  simp only [c122, r122, idx, Nat.zero_add, Nat.reduceAdd]
  simp only [rowG]
  have hl0 : 0 < l.length := List.length_pos_iff.2 hn
  have htot : ((l ++ List.replicate k g0).map (enc (α := Given))).length = l.length + k := by simp
  refine AW.seq (AW.reg cd122_0 fun K hK => ?_)
  simp only [g122_0, bR, Nat.reduceEqDiff, reduceIte, Int.reduceBNe, Int.reduceBEq]
  refine .done (hK _ ?_); clear hK K; simp only [thenQ, blockQ]
  obtain ⟨y, hy⟩ := sliceV_any (n := 1000000) (p := []) (sz := 7) hi (show l.length ≤ l.length + k by omega)
  refine AW.seq (AW.reg cd122_1 fun K hK => ?_)
  simp only [g122_1, bR, Nat.reduceEqDiff, reduceIte, Int.reduceBNe, Int.reduceBEq]
  simp only [viewR, htot, Option.map_none, Option.map_some, hy, e_int, bR, Nat.reduceEqDiff, reduceIte, Int.reduceBNe, Int.reduceBEq]
  refine .done (hK _ ?_); clear hK K; simp only [thenQ, blockQ]
  refine AW.seq (AW.reg cd122_2 fun K hK => ?_)
  simp only [g122_2, bR, Nat.reduceEqDiff, reduceIte, Int.reduceBNe, Int.reduceBEq]
  try simp only [typR, useR, okR, e_fin, bR, Nat.reduceEqDiff, reduceIte, Int.reduceBNe, Int.reduceBEq]
  refine .done (hK _ ?_); clear hK K; simp only [thenQ, blockQ]
  refine AW.seq (AW.seq ?_)
  refine AW.reg cd122_3 fun K hK => ?_
  simp only [g122_3, bR, Nat.reduceEqDiff, reduceIte, Int.reduceBNe, Int.reduceBEq]
  try simp only [typR, useR, okR, e_fin, bR, Nat.reduceEqDiff, reduceIte, Int.reduceBNe, Int.reduceBEq]
  refine .done (hK _ ?_); clear hK K; simp only [thenQ, blockQ]
  refine AW.ite ?_
  simp only [condQ, bR, Nat.reduceEqDiff, reduceIte, Int.reduceBNe, Int.reduceBEq]
  refine ⟨fun h => ?_, fun h => ?_⟩
  · first | cases h | simp at h
  refine AW.skip ?_; simp only [thenQ, blockQ, reduceIte, Nat.reduceEqDiff]
  refine AW.seq (AW.reg cd122_5 fun K hK => ?_)
  simp only [g122_5, bR, Nat.reduceEqDiff, reduceIte, Int.reduceBNe, Int.reduceBEq]
  simp only [viewR, bR, Nat.reduceEqDiff, reduceIte, Int.reduceBNe, Int.reduceBEq]
  refine .done (hK _ ?_); clear hK K; simp only [thenQ, blockQ]
  refine AW.seq (AW.seq ?_)
  refine AW.reg cd122_6 fun K hK => ?_
  simp only [g122_6, bR, Nat.reduceEqDiff, reduceIte, Int.reduceBNe, Int.reduceBEq]
  try simp only [typR, useR, okR, e_fin, bR, Nat.reduceEqDiff, reduceIte, Int.reduceBNe, Int.reduceBEq]
  refine .done (hK _ ?_); clear hK K; simp only [thenQ, blockQ]
  have hA : ∀ ts, (mkA ts [(1000000, .box (.agg ((l ++ List.replicate k g0).map (enc (α := Given)))))]).o 1000000 = some (.box (.agg ((l ++ List.replicate k g0).map enc))) := fun _ => rfl
  have hN : ∀ ts (d : Nat), d ≠ 1000000 → (mkA ts [(1000000, .box (.agg ((l ++ List.replicate k g0).map (enc (α := Given)))))]).o d = none := fun ts d hd => by
    have : ¬ d = 1000000 := hd
    simp [mkA, lookO, this, Ne.symm hd]
  refine AW.ite ?_
  simp only [condQ, bR, Nat.reduceEqDiff, reduceIte, Int.reduceBNe, Int.reduceBEq]
  refine ⟨fun h => ?_, fun h => ?_⟩
  · have hil : i = l.length := by
      have : (i : Int) = l.length := by simpa using h
      omega
    subst hil
    by_cases hk : k = 0
    · subst hk
      refine AW.seq (AW.reg cd122_7 fun K hK => ?_)
      simp only [g122_7, bR, Nat.reduceEqDiff, reduceIte, Int.reduceBNe, Int.reduceBEq]
      simp only [e_g0, bR, Nat.reduceEqDiff, reduceIte, Int.reduceBNe, Int.reduceBEq]
      refine WP.appGrow (esz := 7) g0 rfl (xs := l ++ List.replicate 0 g0) (ys := [g]) (by simp) (hA _) (by simp) (by simp) (hN _ 25 (by decide)) (by simp; omega) (by simp [maxLen]; omega) fun q => ?_
      have hc : (l ++ List.replicate 0 g0).take l.length ++ ([g] ++ List.replicate q g0) = ins l l.length g ++ List.replicate q g0 := by simp [ins]
      rw [hc]
      simp only [List.length_singleton, bR, Nat.reduceEqDiff, reduceIte, Int.reduceBNe, Int.reduceBEq]
      refine .done (hK _ ?_); clear hK K; simp only [thenQ, blockQ]
      refine AW.ret ?_
      simp only [blockQ, thenQ, retO_ret]
      exact ⟨rowG 25 (ins l l.length g) q ++ rowG 1000000 l 0, [.view 25 [] 7 0 (l.length + 1)], held2 rfl (fun p => map_only p _) rfl (fun p => map_only p _), ⟨⟨_, rfl, .inl ⟨rfl, rfl, rfl⟩⟩, trivial⟩, .inr ⟨25, q, .inl rfl, rfl, rfl⟩⟩
    · refine AW.seq (AW.reg cd122_7 fun K hK => ?_)
      simp only [g122_7, bR, Nat.reduceEqDiff, reduceIte, Int.reduceBNe, Int.reduceBEq]
      simp only [e_g0, bR, Nat.reduceEqDiff, reduceIte, Int.reduceBNe, Int.reduceBEq]
      rw [appR_view (esz := 7) _ rfl (xs := l ++ List.replicate k g0) (ys := [g]) (by simp) (hA _) (by simp; omega)]
      have hc : (l ++ List.replicate k g0).take l.length ++ ([g] ++ (l ++ List.replicate k g0).drop (l.length + [g].length)) = ins l l.length g ++ List.replicate (k - 1) g0 := by
        simp [ins, List.drop_append]
      rw [hc]
      simp only [List.length_singleton, bR, Nat.reduceEqDiff, reduceIte, Int.reduceBNe, Int.reduceBEq]
      refine .done (hK _ ?_); clear hK K; simp only [thenQ, blockQ]
      refine AW.ret ?_
      simp only [blockQ, thenQ, retO_ret]
      exact ⟨rowG 1000000 (ins l l.length g) (k - 1), [.view 1000000 [] 7 0 (l.length + 1)], held1 rfl (fun p => map_only p _), ⟨⟨_, rfl, .inl ⟨rfl, rfl, rfl⟩⟩, trivial⟩, .inl ⟨k - 1, rfl, rfl⟩⟩
  have hlt : i < l.length := by
    have : ¬ (i : Int) = l.length := by simpa using h
    omega
  refine AW.skip ?_; simp only [thenQ, blockQ, reduceIte, Nat.reduceEqDiff]
  refine AW.seq (AW.seq ?_)
  refine AW.reg cd122_8 fun K hK => ?_
  simp only [g122_8, bR, Nat.reduceEqDiff, reduceIte, Int.reduceBNe, Int.reduceBEq]
  simp only [o_cap, List.length_singleton, bR, Nat.reduceEqDiff, reduceIte, Int.reduceBNe, Int.reduceBEq]
  rw [capE_view (xs := l ++ List.replicate k g0) (hA _)]
  simp only [bR, Nat.reduceEqDiff, reduceIte, Int.reduceBNe, Int.reduceBEq]
  rw [wrap_id _ (by simp; omega) (by simp; omega)]
  refine .done (hK _ ?_); clear hK K; simp only [thenQ, blockQ]
  have hgt : decide ((((l ++ List.replicate k g0).length - 0 : Nat) : Int) < (l.length : Int) + ((1 : Nat) : Int)) = decide (k = 0) := by
    by_cases hk : k = 0 <;> simp [hk] <;> omega
  simp only [hgt]
  by_cases hk : k = 0
  · subst hk
    refine AW.ite ?_
    simp only [condQ, bR, Nat.reduceEqDiff, reduceIte, Int.reduceBNe, Int.reduceBEq]
    refine ⟨fun h => ?_, fun h => ?_⟩
    · have htot0 : ((l ++ List.replicate 0 g0).map (enc (α := Given))).length = l.length := by simp
      refine AW.seq (AW.reg cd122_9 fun K hK => ?_)
      simp only [g122_9, bR, Nat.reduceEqDiff, reduceIte, Int.reduceBNe, Int.reduceBEq]
      simp only [viewR, htot0, Option.map_none, Option.map_some, sliceV_hi (show i ≤ l.length by omega) hl0, List.length_singleton, e_g0, o_apz, bR, Nat.reduceEqDiff, reduceIte, Int.reduceBNe, Int.reduceBEq]
      rw [wrap_id ((l.length : Int) + ((1 : Nat) : Int)) (by omega) (by omega), wrap_id ((l.length : Int) + ((1 : Nat) : Int) - i) (by omega) (by omega)]
      have hm : (l.length : Int) + ((1 : Nat) : Int) - i = ((l.length + 1 - i : Nat) : Int) := by omega
      rw [hm]
      refine WP.apzNew (esz := 7) g0 rfl (xs := l ++ List.replicate 0 g0) (hA _) (by simp; omega) (by omega) (by simp; omega) (hN _ 40 (by decide)) (by omega) (by simp only [maxLen]; omega) fun q => ?_
      obtain ⟨xs, hxs⟩ : ∃ xs, xs = l.take i ++ (List.replicate (l.length + 1 - i) g0 ++ List.replicate q g0) := ⟨_, rfl⟩
      have hxs' : (l ++ List.replicate 0 g0).take i ++ (List.replicate (l.length + 1 - i) g0 ++ List.replicate q g0) = xs := by rw [hxs, List.take_append_of_le_length (by omega)]
      have hxl : xs.length = l.length + 1 + q := by rw [hxs]; simp; omega
      have hle : i + (l.length + 1 - i) = l.length + 1 := by omega
      rw [hxs', hle]
      simp only [bR, Nat.reduceEqDiff, reduceIte, Int.reduceBNe, Int.reduceBEq]
      refine .done (hK _ ?_); clear hK K; simp only [thenQ, blockQ]
      have hxm : (xs.map (enc (α := Given))).length = l.length + 1 + q := by rw [List.length_map]; exact hxl
      have hA2 : ∀ ts, (mkA ts [(40, .box (.agg (xs.map (enc (α := Given))))), (1000000, .box (.agg ((l ++ List.replicate 0 g0).map (enc (α := Given)))))]).o 40 = some (.box (.agg (xs.map enc))) := fun _ => rfl
      refine AW.seq (AW.reg cd122_10 fun K hK => ?_)
      simp only [g122_10, bR, Nat.reduceEqDiff, reduceIte, Int.reduceBNe, Int.reduceBEq]
      simp only [viewR, hxm, Option.map_none, Option.map_some, sliceV_lo (show i ≤ l.length + 1 by omega) (show l.length + 1 ≤ l.length + 1 + q by omega) (show i < l.length + 1 + q by omega), List.length_singleton, e_g0, o_cpy, bR, Nat.reduceEqDiff, reduceIte, Int.reduceBNe, Int.reduceBEq]
      rw [srcL_enc _ 7 [g] rfl, cpyO_enc (xs := xs) (c := 1) (hA2 _) (by omega) (by simp; omega)]
      obtain ⟨ys, hys⟩ : ∃ ys, ys = xs.take i ++ ([g].take 1 ++ xs.drop (i + 1)) := ⟨_, rfl⟩
      have hyl : ys.length = l.length + 1 + q := by rw [hys]; simp; omega
      rw [← hys]
      simp only [bR, Nat.reduceEqDiff, reduceIte, Int.reduceBNe, Int.reduceBEq]
      refine .done (hK _ ?_); clear hK K; simp only [thenQ, blockQ]
      have hym : (ys.map (enc (α := Given))).length = l.length + 1 + q := by rw [List.length_map]; exact hyl
      have hA3 : ∀ ts z, (mkA ts [(40, .box (.agg (ys.map (enc (α := Given))))), (40, z), (1000000, .box (.agg ((l ++ List.replicate 0 g0).map (enc (α := Given)))))]).o 40 = some (.box (.agg (ys.map enc))) := fun _ _ => rfl
      have hA4 : ∀ ts z, (mkA ts [(40, .box (.agg (ys.map (enc (α := Given))))), (40, z), (1000000, .box (.agg ((l ++ List.replicate 0 g0).map (enc (α := Given)))))]).o 1000000 = some (.box (.agg ((l ++ List.replicate 0 g0).map enc))) := fun _ _ => rfl
      refine AW.seq (AW.reg cd122_11 fun K hK => ?_)
      simp only [g122_11, bR, Nat.reduceEqDiff, reduceIte, Int.reduceBNe, Int.reduceBEq]
      rw [wrap_id ((i : Int) + ((1 : Nat) : Int)) (by omega) (by omega)]
      have hi1 : (i : Int) + ((1 : Nat) : Int) = ((i + 1 : Nat) : Int) := by omega
      simp only [viewR, hym, htot0, hi1, Option.map_none, Option.map_some, sliceV_lo (show i + 1 ≤ l.length + 1 by omega) (show l.length + 1 ≤ l.length + 1 + q by omega) (show i + 1 < l.length + 1 + q by omega), sliceV_lo (show i ≤ l.length by omega) (Nat.le_refl l.length) hlt, o_cpy, bR, Nat.reduceEqDiff, reduceIte, Int.reduceBNe, Int.reduceBEq]
      have hd1 : l.length + 1 - (i + 1) = l.length - i := by omega
      rw [hd1, srcL_view (xs := l ++ List.replicate 0 g0) (hA4 _ _) (by simp; omega), cpyO_enc (xs := ys) (c := l.length - i) (hA3 _ _) (by omega) (by simp)]
      rw [list_new l i q g hlt xs hxs ys hys]
      simp only [bR, Nat.reduceEqDiff, reduceIte, Int.reduceBNe, Int.reduceBEq]
      refine .done (hK _ ?_); clear hK K; simp only [thenQ, blockQ]
      refine AW.seq (AW.reg cd122_12 fun K hK => ?_)
      simp only [g122_12, bR, Nat.reduceEqDiff, reduceIte, Int.reduceBNe, Int.reduceBEq]
      refine .done (hK _ ?_); clear hK K; simp only [thenQ, blockQ]
      refine AW.ret ?_
      simp only [blockQ, thenQ, retO_ret]
      exact ⟨rowG 40 (ins l i g) q ++ rowG 1000000 l 0, [.view 40 [] 7 0 (l.length + 1)], held2 rfl (fun p => map_only p _) rfl (fun p => map_only p _), ⟨⟨_, rfl, .inl ⟨rfl, rfl, rfl⟩⟩, trivial⟩, .inr ⟨40, q, .inr rfl, rfl, rfl⟩⟩
    · simp at h
  · refine AW.ite ?_
    simp only [condQ, bR, Nat.reduceEqDiff, reduceIte, Int.reduceBNe, Int.reduceBEq]
    refine ⟨fun h => ?_, fun h => ?_⟩
    · simp at h; omega
    refine AW.skip ?_; simp only [thenQ, blockQ, reduceIte, Nat.reduceEqDiff]
    have hk1 : 1 ≤ k := by omega
    have hn1 : (l.length : Int) + ((1 : Nat) : Int) = ((l.length + 1 : Nat) : Int) := by omega
    refine AW.seq (AW.reg cd122_13 fun K hK => ?_)
    simp only [g122_13, bR, Nat.reduceEqDiff, reduceIte, Int.reduceBNe, Int.reduceBEq]
    rw [wrap_id ((l.length : Int) + ((1 : Nat) : Int)) (by omega) (by omega)]
    simp only [viewR, htot, hn1, Option.map_none, Option.map_some, sliceV_hi (show l.length + 1 ≤ l.length + k by omega) (show 0 < l.length + k by omega), bR, Nat.reduceEqDiff, reduceIte, Int.reduceBNe, Int.reduceBEq]
    refine .done (hK _ ?_); clear hK K; simp only [thenQ, blockQ]
    have hi1 : (i : Int) + ((1 : Nat) : Int) = ((i + 1 : Nat) : Int) := by omega
    have hd1 : l.length + 1 - (i + 1) = l.length - i := by omega
    refine AW.seq (AW.seq ?_)
    refine AW.reg cd122_14 fun K hK => ?_
    simp only [g122_14, bR, Nat.reduceEqDiff, reduceIte, Int.reduceBNe, Int.reduceBEq]
    rw [wrap_id ((i : Int) + ((1 : Nat) : Int)) (by omega) (by omega)]
    simp only [viewR, htot, hi1, hd1, Option.map_none, Option.map_some, sliceV_lo (show i + 1 ≤ l.length + 1 by omega) (show l.length + 1 ≤ l.length + k by omega) (show i + 1 < l.length + k by omega), o_xcall, bR, Nat.reduceEqDiff, reduceIte, Int.reduceBNe, Int.reduceBEq]
    refine .ext (.bool false) rfl (xval_overlaps (tS := 24) (tR := 4) (e := 43) Try.func124 (by kernel_rfl) (by kernel_rfl) (by kernel_rfl) (by kernel_rfl) (by kernel_rfl) (by kernel_rfl) (hA _) rfl ?_ (by decide)) ?_
    · show AV.sizes ((l ++ List.replicate k g0).map enc) ≠ 0
      rw [AV.sizes_const (sz := 7) _ (fun e he => by obtain ⟨x, _, rfl⟩ := List.mem_map.1 he; rw [e_size]; rfl)]
      rw [htot]; omega
    simp only [bR, Nat.reduceEqDiff, reduceIte, Int.reduceBNe, Int.reduceBEq]
    refine .done (hK _ ?_); clear hK K; simp only [thenQ, blockQ]
    refine AW.ite ?_
    simp only [condQ, bR, Nat.reduceEqDiff, reduceIte, Int.reduceBNe, Int.reduceBEq]
    refine ⟨fun h => ?_, fun h => ?_⟩
    case neg.refine_2.refine_2.refine_2 => cases h
    have hd2 : l.length + 1 - i = l.length + 1 - i := rfl
    obtain ⟨xs, hxs⟩ : ∃ xs, xs = l ++ List.replicate k g0 := ⟨_, rfl⟩
    have hxl : xs.length = l.length + k := by rw [hxs]; simp
    have hxm : (xs.map (enc (α := Given))).length = l.length + k := by rw [List.length_map]; exact hxl
    rw [← hxs]
    have hB : ∀ ts, (mkA ts [(1000000, .box (.agg (xs.map (enc (α := Given)))))]).o 1000000 = some (.box (.agg (xs.map enc))) := fun _ => rfl
    refine AW.seq (AW.reg cd122_15 fun K hK => ?_)
    simp only [g122_15, bR, Nat.reduceEqDiff, reduceIte, Int.reduceBNe, Int.reduceBEq]
    rw [wrap_id ((i : Int) + ((1 : Nat) : Int)) (by omega) (by omega)]
    simp only [viewR, hxm, hi1, hd1, Option.map_none, Option.map_some, sliceV_lo (show i + 1 ≤ l.length + 1 by omega) (show l.length + 1 ≤ l.length + k by omega) (show i + 1 < l.length + k by omega), sliceV_lo (show i ≤ l.length + 1 by omega) (show l.length + 1 ≤ l.length + k by omega) (show i < l.length + k by omega), o_cpy, bR, Nat.reduceEqDiff, reduceIte, Int.reduceBNe, Int.reduceBEq]
    rw [srcL_view (xs := xs) (hB _) (by omega), cpyO_enc (xs := xs) (c := l.length - i) (hB _) (by omega) (by simp; omega)]
    obtain ⟨ys, hys⟩ : ∃ ys, ys = xs.take (i + 1) ++ (((xs.drop i).take (l.length + 1 - i)).take (l.length - i) ++ xs.drop (i + 1 + (l.length - i))) := ⟨_, rfl⟩
    have hyl : ys.length = l.length + k := by rw [hys]; simp; omega
    have hym : (ys.map (enc (α := Given))).length = l.length + k := by rw [List.length_map]; exact hyl
    rw [← hys]
    simp only [bR, Nat.reduceEqDiff, reduceIte, Int.reduceBNe, Int.reduceBEq]
    refine .done (hK _ ?_); clear hK K; simp only [thenQ, blockQ]
    have hC : ∀ ts z, (mkA ts [(1000000, .box (.agg (ys.map (enc (α := Given))))), (1000000, z)]).o 1000000 = some (.box (.agg (ys.map enc))) := fun _ _ => rfl
    refine AW.seq (AW.reg cd122_16 fun K hK => ?_)
    simp only [g122_16, bR, Nat.reduceEqDiff, reduceIte, Int.reduceBNe, Int.reduceBEq]
    simp only [viewR, hym, Option.map_none, Option.map_some, sliceV_lo (show i ≤ l.length + 1 by omega) (show l.length + 1 ≤ l.length + k by omega) (show i < l.length + k by omega), o_cpy, bR, Nat.reduceEqDiff, reduceIte, Int.reduceBNe, Int.reduceBEq]
    rw [srcL_enc _ 7 [g] rfl, cpyO_enc (xs := ys) (c := 1) (hC _ _) (by omega) (by simp; omega)]
    rw [list_in l i k g hlt hk1 xs hxs ys hys]
    simp only [bR, Nat.reduceEqDiff, reduceIte, Int.reduceBNe, Int.reduceBEq]
    refine .done (hK _ ?_); clear hK K; simp only [thenQ, blockQ]
    refine AW.seq (AW.reg cd122_17 fun K hK => ?_)
    simp only [g122_17, bR, Nat.reduceEqDiff, reduceIte, Int.reduceBNe, Int.reduceBEq]
    refine .done (hK _ ?_); clear hK K; simp only [thenQ, blockQ]
    refine AW.ret ?_
    simp only [blockQ, thenQ, retO_ret]
    exact ⟨rowG 1000000 (ins l i g) (k - 1), [.view 1000000 [] 7 0 (l.length + 1)], held1 rfl (fun p => map_only p _), ⟨⟨_, rfl, .inl ⟨rfl, rfl, rfl⟩⟩, trivial⟩, .inl ⟨k - 1, rfl, rfl⟩⟩
end Go.Proofs.Ytkjkbpgdpnapfaa

/-
  FUNCTIONS OF mark BY CONTRACT: with.
-/
namespace Go.Proofs.Ytkjkbpgdpnapfaa
open Go Go.Abs
open Go.Abs.Enc (enc)
def insNil (g : Given) : Post := fun r os' => ∃ q, r = .view 25 [] 7 0 1 ∧ os' = rowG 25 [g] q
theorem slE_empty (A : AState) : slE A 7 (some (.int .i64 0)) none none (.c0 7) = some (.slice 7 []) ∧ slE A 7 (some (.int .i64 0)) none none (.nils 7) = some (.slice 7 []) := by
  constructor <;> simp [slE, sliceOf, bound]
theorem F122n (x : AV) (hx : x = .nils 7 ∨ x = .c0 7) (g : Given) : CtrO Try.prog 122 [x, enc (0 : Int), enc [g]] [] (insNil g) := by
  rcases hx with rfl | rfl
  · refine CtrO.mk' Try.func122 ca122 cc122 cr122 (Nat.le_of_ble_eq_true rfl) (Nat.le_of_ble_eq_true rfl) (fun m hm => by simp [isIn, lookO] at hm) (fun hwf W0 D0 E1 => ?_)
    simp only [c122, r122, idx, Nat.zero_add, Nat.reduceAdd]
    refine AW.seq (AW.reg cd122_0 fun K hK => ?_)
    simp only [g122_0, bR, Nat.reduceEqDiff, reduceIte, Int.reduceBNe, Int.reduceBEq]
    refine .done (hK _ ?_); clear hK K; simp only [thenQ, blockQ]
    refine AW.seq (AW.reg cd122_1 fun K hK => ?_)
    simp only [g122_1, bR, Nat.reduceEqDiff, reduceIte, Int.reduceBNe, Int.reduceBEq]
    simp only [Option.map_none, Option.map_some, e_int, (slE_empty _).1, (slE_empty _).2, bR, Nat.reduceEqDiff, reduceIte, Int.reduceBNe, Int.reduceBEq]
    refine .done (hK _ ?_); clear hK K; simp only [thenQ, blockQ]
    refine AW.seq (AW.reg cd122_2 fun K hK => ?_)
    simp only [g122_2, bR, Nat.reduceEqDiff, reduceIte, Int.reduceBNe, Int.reduceBEq]
    try simp only [typR, useR, okR, e_fin, bR, Nat.reduceEqDiff, reduceIte, Int.reduceBNe, Int.reduceBEq]
    refine .done (hK _ ?_); clear hK K; simp only [thenQ, blockQ]
    refine AW.seq (AW.seq ?_)
    refine AW.reg cd122_3 fun K hK => ?_
    simp only [g122_3, bR, Nat.reduceEqDiff, reduceIte, Int.reduceBNe, Int.reduceBEq]
    try simp only [typR, useR, okR, e_fin, bR, Nat.reduceEqDiff, reduceIte, Int.reduceBNe, Int.reduceBEq]
    refine .done (hK _ ?_); clear hK K; simp only [thenQ, blockQ]
    refine AW.ite ?_
    simp only [condQ, bR, Nat.reduceEqDiff, reduceIte, Int.reduceBNe, Int.reduceBEq]
    refine ⟨fun h => ?_, fun h => ?_⟩
    · first | cases h | simp at h
    refine AW.skip ?_; simp only [thenQ, blockQ, reduceIte, Nat.reduceEqDiff]
    refine AW.seq (AW.reg cd122_5 fun K hK => ?_)
    simp only [g122_5, bR, Nat.reduceEqDiff, reduceIte, Int.reduceBNe, Int.reduceBEq]
    try simp only [typR, useR, okR, e_fin, bR, Nat.reduceEqDiff, reduceIte, Int.reduceBNe, Int.reduceBEq]
    refine .done (hK _ ?_); clear hK K; simp only [thenQ, blockQ]
    refine AW.seq (AW.seq ?_)
    refine AW.reg cd122_6 fun K hK => ?_
    simp only [g122_6, bR, Nat.reduceEqDiff, reduceIte, Int.reduceBNe, Int.reduceBEq]
    try simp only [typR, useR, okR, e_fin, bR, Nat.reduceEqDiff, reduceIte, Int.reduceBNe, Int.reduceBEq]
    refine .done (hK _ ?_); clear hK K; simp only [thenQ, blockQ]
    refine AW.ite ?_
    simp only [condQ, bR, Nat.reduceEqDiff, reduceIte, Int.reduceBNe, Int.reduceBEq]
    refine ⟨fun h => ?_, fun h => ?_⟩
    case refine_2.refine_2 => first | cases h | simp at h
    refine AW.seq (AW.reg cd122_7 fun K hK => ?_)
    simp only [g122_7, bR, Nat.reduceEqDiff, reduceIte, Int.reduceBNe, Int.reduceBEq]
    simp only [e_g0, bR, Nat.reduceEqDiff, reduceIte, Int.reduceBNe, Int.reduceBEq]
    refine WP.appNils (esz := 7) g0 (l := [g]) rfl (by simp) rfl (by simp) (by simp [maxLen]) fun q => ?_
    simp only [bR, Nat.reduceEqDiff, reduceIte, Int.reduceBNe, Int.reduceBEq]
    refine .done (hK _ ?_); clear hK K; simp only [thenQ, blockQ]
    refine AW.ret ?_
    simp only [blockQ, thenQ, retO_ret]
    exact ⟨rowG 25 [g] q, [.view 25 [] 7 0 1], held1 rfl (fun p => map_only p _), ⟨⟨_, rfl, .inl ⟨rfl, rfl, rfl⟩⟩, trivial⟩, q, rfl, rfl⟩
  · refine CtrO.mk' Try.func122 ca122 cc122 cr122 (Nat.le_of_ble_eq_true rfl) (Nat.le_of_ble_eq_true rfl) (fun m hm => by simp [isIn, lookO] at hm) (fun hwf W0 D0 E1 => ?_)
    simp only [c122, r122, idx, Nat.zero_add, Nat.reduceAdd]
    refine AW.seq (AW.reg cd122_0 fun K hK => ?_)
    simp only [g122_0, bR, Nat.reduceEqDiff, reduceIte, Int.reduceBNe, Int.reduceBEq]
    refine .done (hK _ ?_); clear hK K; simp only [thenQ, blockQ]
    refine AW.seq (AW.reg cd122_1 fun K hK => ?_)
    simp only [g122_1, bR, Nat.reduceEqDiff, reduceIte, Int.reduceBNe, Int.reduceBEq]
    simp only [Option.map_none, Option.map_some, e_int, (slE_empty _).1, (slE_empty _).2, bR, Nat.reduceEqDiff, reduceIte, Int.reduceBNe, Int.reduceBEq]
    refine .done (hK _ ?_); clear hK K; simp only [thenQ, blockQ]
    refine AW.seq (AW.reg cd122_2 fun K hK => ?_)
    simp only [g122_2, bR, Nat.reduceEqDiff, reduceIte, Int.reduceBNe, Int.reduceBEq]
    try simp only [typR, useR, okR, e_fin, bR, Nat.reduceEqDiff, reduceIte, Int.reduceBNe, Int.reduceBEq]
    refine .done (hK _ ?_); clear hK K; simp only [thenQ, blockQ]
    refine AW.seq (AW.seq ?_)
    refine AW.reg cd122_3 fun K hK => ?_
    simp only [g122_3, bR, Nat.reduceEqDiff, reduceIte, Int.reduceBNe, Int.reduceBEq]
    try simp only [typR, useR, okR, e_fin, bR, Nat.reduceEqDiff, reduceIte, Int.reduceBNe, Int.reduceBEq]
    refine .done (hK _ ?_); clear hK K; simp only [thenQ, blockQ]
    refine AW.ite ?_
    simp only [condQ, bR, Nat.reduceEqDiff, reduceIte, Int.reduceBNe, Int.reduceBEq]
    refine ⟨fun h => ?_, fun h => ?_⟩
    · first | cases h | simp at h
    refine AW.skip ?_; simp only [thenQ, blockQ, reduceIte, Nat.reduceEqDiff]
    refine AW.seq (AW.reg cd122_5 fun K hK => ?_)
    simp only [g122_5, bR, Nat.reduceEqDiff, reduceIte, Int.reduceBNe, Int.reduceBEq]
    try simp only [typR, useR, okR, e_fin, bR, Nat.reduceEqDiff, reduceIte, Int.reduceBNe, Int.reduceBEq]
    refine .done (hK _ ?_); clear hK K; simp only [thenQ, blockQ]
    refine AW.seq (AW.seq ?_)
    refine AW.reg cd122_6 fun K hK => ?_
    simp only [g122_6, bR, Nat.reduceEqDiff, reduceIte, Int.reduceBNe, Int.reduceBEq]
    try simp only [typR, useR, okR, e_fin, bR, Nat.reduceEqDiff, reduceIte, Int.reduceBNe, Int.reduceBEq]
    refine .done (hK _ ?_); clear hK K; simp only [thenQ, blockQ]
    refine AW.ite ?_
    simp only [condQ, bR, Nat.reduceEqDiff, reduceIte, Int.reduceBNe, Int.reduceBEq]
    refine ⟨fun h => ?_, fun h => ?_⟩
    case refine_2.refine_2 => first | cases h | simp at h
    refine AW.seq (AW.reg cd122_7 fun K hK => ?_)
    simp only [g122_7, bR, Nat.reduceEqDiff, reduceIte, Int.reduceBNe, Int.reduceBEq]
    simp only [e_g0, bR, Nat.reduceEqDiff, reduceIte, Int.reduceBNe, Int.reduceBEq]
    refine WP.appNew (esz := 7) g0 (l := [g]) rfl (by simp) rfl (by simp) (by simp [maxLen]) fun q => ?_
    simp only [bR, Nat.reduceEqDiff, reduceIte, Int.reduceBNe, Int.reduceBEq]
    refine .done (hK _ ?_); clear hK K; simp only [thenQ, blockQ]
    refine AW.ret ?_
    simp only [blockQ, thenQ, retO_ret]
    exact ⟨rowG 25 [g] q, [.view 25 [] 7 0 1], held1 rfl (fun p => map_only p _), ⟨⟨_, rfl, .inl ⟨rfl, rfl, rfl⟩⟩, trivial⟩, q, rfl, rfl⟩
theorem Bck.oneR {bx : Bool} {ρ : List (Nat × Nat)} {k : Nat} {x : AO} {os0 : List (Nat × AO)} {r c : AV} (h1 : ∀ p, c.only p = true) (h2 : bx = true → c.lean = true) (h3 : r.only (isIn [(k, .box c)]) = true) (h4 : bx = true → r.lean = true) : Bck bx ρ [(k, x)] os0 r [(k, .box c)] := by
  refine ⟨fun m x h => ?_, fun m m' h h' _ => ?_, fun m h => ?_, fun m h h' => ?_, h3, h4⟩
  · simp only [lookO] at h
    split at h
    · simp only [Option.some.injEq] at h; subst h; exact ⟨h1 _, rfl, h2⟩
    · cases h
  · rw [isIn_one.1 h, isIn_one.1 h']
  · rw [isIn_one.1 h]; exact isIn_one.2 rfl
  · rw [isIn_one.1 h] at h'
    have : isIn [(k, x)] k = true := isIn_one.2 rfl
    rw [this] at h'; cases h'
theorem Bck.two {bx : Bool} {ρ : List (Nat × Nat)} {k k' d d' : Nat} {x : AO} {os0 : List (Nat × AO)} {r c c' : AV} (hk : rnm ρ k = d) (hk' : rnm ρ k' = d') (hd : d ≠ d') (hne : k ≠ k') (h1 : ∀ p, c.only p = true) (h2 : bx = true → c.lean = true) (h1' : ∀ p, c'.only p = true) (h2' : bx = true → c'.lean = true)
    (h3 : r.only (isIn [(k, .box c), (k', .box c')]) = true) (h4 : bx = true → r.lean = true) (h5 : lookO os0 d = none) (h6 : d < 1000000) : Bck bx ρ [(k', x)] os0 r [(k, .box c), (k', .box c')] := by
  have two : ∀ m, isIn [(k, AO.box c), (k', AO.box c')] m = true → m = k ∨ m = k' := fun m h => by
    simp only [isIn, lookO] at h
    split at h
    · rename_i e; exact .inl e
    · split at h
      · rename_i e; exact .inr e
      · cases h
  refine ⟨fun m y h => ?_, fun m m' h h' e => ?_, fun m h => ?_, fun m h h' => ?_, h3, h4⟩
  · simp only [lookO] at h
    split at h
    · simp only [Option.some.injEq] at h; subst h; exact ⟨h1 _, rfl, h2⟩
    · split at h
      · simp only [Option.some.injEq] at h; subst h; exact ⟨h1' _, rfl, h2'⟩
      · cases h
  · rcases two m h with rfl | rfl <;> rcases two m' h' with rfl | rfl
    · rfl
    · rw [hk, hk'] at e; exact absurd e hd
    · rw [hk, hk'] at e; exact absurd e.symm hd
    · rfl
  · rw [isIn_one.1 h]
    simp [isIn, lookO, Ne.symm hne]
  · rcases two m h with rfl | rfl
    · rw [hk]; exact ⟨h5, h6⟩
    · have : isIn [(m, x)] m = true := isIn_one.2 rfl
      rw [this] at h'; cases h'
theorem F102 (m : Marks) (g : Given) (hm : okM m = true) (ho : 1 ≤ g.owner ∧ g.owner ≤ 99) : Ctr Try.prog 102 [enc m, enc g] (enc (⟨m.wear, m.fls, ins m.given (posOf m.given g.owner) g⟩ : Marks)) := by
  refine Ctr.mk' Try.func102 ca102 cc102 cr102 (Nat.le_of_ble_eq_true rfl) (fun hwf W0 D0 E1 => ?_)
  simp only [c102, r102, idx, Nat.zero_add, Nat.reduceAdd]
  have hlen := okM_len hm
  refine AW.seq (AW.reg cd102_0 fun K hK => ?_)
  simp only [g102_0, bR, Nat.reduceEqDiff, reduceIte, Int.reduceBNe, Int.reduceBEq]
  simp only [e_isVal, bR, Nat.reduceEqDiff, reduceIte, Int.reduceBNe, Int.reduceBEq]
  refine .done (hK _ ?_); clear hK K; simp only [thenQ, blockQ]
  refine AW.seq (AW.reg cd102_1 fun K hK => ?_)
  simp only [g102_1, bR, Nat.reduceEqDiff, reduceIte, Int.reduceBNe, Int.reduceBEq]
  try simp only [typR, useR, okR, e_fin, bR, Nat.reduceEqDiff, reduceIte, Int.reduceBNe, Int.reduceBEq]
  refine .lead _ (F91 m g.owner hm ho) ?_
  try simp only [typR, useR, okR, e_fin, bR, Nat.reduceEqDiff, reduceIte, Int.reduceBNe, Int.reduceBEq]
  refine .done (hK _ ?_); clear hK K; simp only [thenQ, blockQ]
  refine AW.seq (AW.regO [122] l102_2 [0, 1, 3, 4, 5, 2, 6, 7, 8] (by kernel_rfl) fun K hK => ?_)
  simp only [permG, g102_2, List.map_cons, List.map_nil, List.getD_cons_zero, List.getD_cons_succ, typR, useR, okR, e_fin, bR, Nat.reduceEqDiff, reduceIte, Int.reduceBNe, Int.reduceBEq]
  obtain ⟨L, hL⟩ : ∃ L, L = ins m.given (posOf m.given g.owner) g := ⟨_, rfl⟩
  have hposl : posOf m.given g.owner ≤ m.given.length := List.findIdx_le_length
  have hLn : m.given.length + 1 = L.length := by rw [hL, ins_len g hposl]
  have hbs : bsE 7 (some [enc g]) = some (enc [g]) := bsE_one 7 g rfl
  simp only [hbs, bR, Nat.reduceEqDiff, reduceIte, Int.reduceBNe, Int.reduceBEq]
  refine .obj [(7, 16)] [enc m.given] (clonePost m.given) (F85 m.given (by omega)) Gvn.nil ⟨.inl ⟨(e_ren _ _).symm, e_only _ _, e_isVal _⟩, trivial⟩ ?_ ?_
  · rintro x os' (⟨_, h | h, rfl⟩ | ⟨_, k, rfl, rfl⟩)
    · subst h; exact Bck.nil (fun _ => rfl) (fun h => by cases h)
    · subst h; exact Bck.nil (fun _ => rfl) (fun h => by cases h)
    · exact Bck.new1 (fun p => map_only p _) (fun h => by cases h) rfl (fun h => by cases h) rfl (by decide)
  · rintro x os' (⟨hn, h, rfl⟩ | ⟨hn, k, rfl, rfl⟩)
    · have hren : x.ren (rnm [(7, 16)]) = x ∧ x.isVal = true ∧ ∀ q, x.only q = true := by rcases h with rfl | rfl <;> exact ⟨by simp only [AV.ren], rfl, fun _ => rfl⟩
      have hren2 : x.ren (rnm [(25, 20)]) = x := by rcases h with rfl | rfl <;> simp only [AV.ren]
      have hpos : posOf m.given g.owner = 0 := by rw [hn]; rfl
      rw [hren.1, hpos]
      simp only [renR, List.nil_append, bR, Nat.reduceEqDiff, reduceIte, Int.reduceBNe, Int.reduceBEq]
      refine .obj [(25, 20)] [x, enc (0 : Int), enc [g]] (insNil g) (F122n x h g) Gvn.nil ⟨.inl ⟨hren2.symm, hren.2.2 _, hren.2.1⟩, .inl ⟨rfl, rfl, rfl⟩, .inl ⟨(e_ren _ _).symm, e_only _ _, e_isVal _⟩, trivial⟩ ?_ ?_
      · rintro x os' ⟨k, rfl, rfl⟩
        exact Bck.new1 (fun p => map_only p _) (fun h => by cases h) rfl (fun h => by cases h) rfl (by decide)
      · rintro x os' ⟨k, rfl, rfl⟩
        have hLg : [g] = L := by rw [hL, hpos, hn]; rfl
        have hLl : 1 = L.length := by rw [← hLg]; rfl
        rw [hLg]
        simp only [rowG, renR, rens_map_enc, List.cons_append, List.nil_append, typR, bR, Nat.reduceEqDiff, reduceIte, Int.reduceBNe, Int.reduceBEq]
        rw [stR3_ok (s := none) (v := .view 20 [] 7 0 1) (old := enc m.given) rfl rfl (e_sh m.given).symm]
        have hset : (enc m : AV).setAt [2] (.view 20 [] 7 0 1) = .agg [enc m.wear, .int .i64 m.fls, .view 20 [] 7 0 1] := rfl
        rw [hset]
        obtain ⟨s1, s2, s3⟩ := bookL m.wear m.fls (.view 20 [] 7 0 1) rfl rfl rfl
        simp only [bR, Nat.reduceEqDiff, reduceIte, Int.reduceBNe, Int.reduceBEq]
        refine .done (hK _ ?_); clear hK K; simp only [thenQ, blockQ]
        refine AW.seq (AW.reg cd102_3 fun K hK => ?_)
        simp only [g102_3, bR, Nat.reduceEqDiff, reduceIte, Int.reduceBNe, Int.reduceBEq]
        simp only [s2, e_a5, bR, Nat.reduceEqDiff, reduceIte, Int.reduceBNe, Int.reduceBEq]
        rw [stR3_ok s1 s2 (s3.trans (bookL (a5 0 0 0 0 0) 0 (.nils 7) rfl rfl rfl).2.2.symm)]
        simp only [setAt_nil, bR, Nat.reduceEqDiff, reduceIte, Int.reduceBNe, Int.reduceBEq]
        refine .done (hK _ ?_); clear hK K; simp only [thenQ, blockQ]
        refine AW.ret ?_
        simp only [blockQ, thenQ, bR, Nat.reduceEqDiff, reduceIte, Int.reduceBNe, Int.reduceBEq]
        simp only [s2, finV_take (α := Given) (sz := 7) rfl, typR, e_fin, bR, Nat.reduceEqDiff, reduceIte, Int.reduceBNe, Int.reduceBEq]
        rw [e_M, ← hL, hLl, take_row]
    · have hLl := hLn
      simp only [rowG, renR, rens_map_enc, List.cons_append, List.nil_append, bR, Nat.reduceEqDiff, reduceIte, Int.reduceBNe, Int.reduceBEq]
      refine .objH false [(1000000, 16), (25, 20), (40, 21)] (rowG 1000000 m.given k) [.view 1000000 [] 7 0 m.given.length, enc (posOf m.given g.owner : Int), enc [g]] (insPost m.given (posOf m.given g.owner) g k) rfl (F122 m.given (posOf m.given g.owner) g k hposl hn (by omega)) ⟨?_, ?_⟩ ⟨.inl ⟨?_, ?_, rfl⟩, .inl ⟨rfl, rfl, rfl⟩, .inl ⟨(e_ren _ _).symm, e_only _ _, e_isVal _⟩, trivial⟩ ?_ ?_
      · intro n x h
        simp only [rowG, lookO] at h
        split at h
        · rename_i hn'
          subst hn'
          simp only [Option.some.injEq] at h
          subst h
          exact ⟨by simp only [renR, rens_map_enc, bR, Nat.reduceEqDiff, reduceIte, Int.reduceBNe, Int.reduceBEq], map_only _ _, rfl⟩
        · cases h
      · intro a b ha hb _
        rw [isIn_one.1 ha, isIn_one.1 hb]
      · simp only [renR, bR, Nat.reduceEqDiff, reduceIte, Int.reduceBNe, Int.reduceBEq]
      · exact isIn_one.2 rfl
      · rintro x os' (⟨q, rfl, rfl⟩ | ⟨d, q, rfl | rfl, rfl, rfl⟩)
        · exact Bck.oneR (fun p => map_only p _) (fun h => by cases h) rfl (fun h => by cases h)
        · exact Bck.two rfl rfl (by decide) (by decide) (fun p => map_only p _) (fun h => by cases h) (fun p => map_only p _) (fun h => by cases h) rfl (fun h => by cases h) rfl (by decide)
        · exact Bck.two rfl rfl (by decide) (by decide) (fun p => map_only p _) (fun h => by cases h) (fun p => map_only p _) (fun h => by cases h) rfl (fun h => by cases h) rfl (by decide)
      · rintro x os' (⟨q, rfl, rfl⟩ | ⟨d, q, rfl | rfl, rfl, rfl⟩)
        · rw [← hL]
          simp only [rowG, renR, rens_map_enc, List.cons_append, List.nil_append, typR, bR, Nat.reduceEqDiff, reduceIte, Int.reduceBNe, Int.reduceBEq]
          rw [stR3_ok (s := none) (v := .view 16 [] 7 0 (m.given.length + 1)) (old := enc m.given) rfl rfl (e_sh m.given).symm]
          have hset : (enc m : AV).setAt [2] (.view 16 [] 7 0 (m.given.length + 1)) = .agg [enc m.wear, .int .i64 m.fls, .view 16 [] 7 0 (m.given.length + 1)] := rfl
          rw [hset]
          obtain ⟨s1, s2, s3⟩ := bookL m.wear m.fls (.view 16 [] 7 0 (m.given.length + 1)) rfl rfl rfl
          simp only [bR, Nat.reduceEqDiff, reduceIte, Int.reduceBNe, Int.reduceBEq]
          refine .done (hK _ ?_); clear hK K; simp only [thenQ, blockQ]
          refine AW.seq (AW.reg cd102_3 fun K hK => ?_)
          simp only [g102_3, bR, Nat.reduceEqDiff, reduceIte, Int.reduceBNe, Int.reduceBEq]
          simp only [s2, e_a5, bR, Nat.reduceEqDiff, reduceIte, Int.reduceBNe, Int.reduceBEq]
          rw [stR3_ok s1 s2 (s3.trans (bookL (a5 0 0 0 0 0) 0 (.nils 7) rfl rfl rfl).2.2.symm)]
          simp only [setAt_nil, bR, Nat.reduceEqDiff, reduceIte, Int.reduceBNe, Int.reduceBEq]
          refine .done (hK _ ?_); clear hK K; simp only [thenQ, blockQ]
          refine AW.ret ?_
          simp only [blockQ, thenQ, bR, Nat.reduceEqDiff, reduceIte, Int.reduceBNe, Int.reduceBEq]
          simp only [s2, finV_take (α := Given) (sz := 7) rfl, typR, e_fin, bR, Nat.reduceEqDiff, reduceIte, Int.reduceBNe, Int.reduceBEq]
          rw [e_M, ← hL, hLl, take_row]
        · rw [← hL]
          simp only [rowG, renR, rens_map_enc, List.cons_append, List.nil_append, typR, bR, Nat.reduceEqDiff, reduceIte, Int.reduceBNe, Int.reduceBEq]
          rw [stR3_ok (s := none) (v := .view 20 [] 7 0 (m.given.length + 1)) (old := enc m.given) rfl rfl (e_sh m.given).symm]
          have hset : (enc m : AV).setAt [2] (.view 20 [] 7 0 (m.given.length + 1)) = .agg [enc m.wear, .int .i64 m.fls, .view 20 [] 7 0 (m.given.length + 1)] := rfl
          rw [hset]
          obtain ⟨s1, s2, s3⟩ := bookL m.wear m.fls (.view 20 [] 7 0 (m.given.length + 1)) rfl rfl rfl
          simp only [bR, Nat.reduceEqDiff, reduceIte, Int.reduceBNe, Int.reduceBEq]
          refine .done (hK _ ?_); clear hK K; simp only [thenQ, blockQ]
          refine AW.seq (AW.reg cd102_3 fun K hK => ?_)
          simp only [g102_3, bR, Nat.reduceEqDiff, reduceIte, Int.reduceBNe, Int.reduceBEq]
          simp only [s2, e_a5, bR, Nat.reduceEqDiff, reduceIte, Int.reduceBNe, Int.reduceBEq]
          rw [stR3_ok s1 s2 (s3.trans (bookL (a5 0 0 0 0 0) 0 (.nils 7) rfl rfl rfl).2.2.symm)]
          simp only [setAt_nil, bR, Nat.reduceEqDiff, reduceIte, Int.reduceBNe, Int.reduceBEq]
          refine .done (hK _ ?_); clear hK K; simp only [thenQ, blockQ]
          refine AW.ret ?_
          simp only [blockQ, thenQ, bR, Nat.reduceEqDiff, reduceIte, Int.reduceBNe, Int.reduceBEq]
          simp only [s2, finV_take (α := Given) (sz := 7) rfl, typR, e_fin, bR, Nat.reduceEqDiff, reduceIte, Int.reduceBNe, Int.reduceBEq]
          rw [e_M, ← hL, hLl, take_row]
        · rw [← hL]
          simp only [rowG, renR, rens_map_enc, List.cons_append, List.nil_append, typR, bR, Nat.reduceEqDiff, reduceIte, Int.reduceBNe, Int.reduceBEq]
          rw [stR3_ok (s := none) (v := .view 21 [] 7 0 (m.given.length + 1)) (old := enc m.given) rfl rfl (e_sh m.given).symm]
          have hset : (enc m : AV).setAt [2] (.view 21 [] 7 0 (m.given.length + 1)) = .agg [enc m.wear, .int .i64 m.fls, .view 21 [] 7 0 (m.given.length + 1)] := rfl
          rw [hset]
          obtain ⟨s1, s2, s3⟩ := bookL m.wear m.fls (.view 21 [] 7 0 (m.given.length + 1)) rfl rfl rfl
          simp only [bR, Nat.reduceEqDiff, reduceIte, Int.reduceBNe, Int.reduceBEq]
          refine .done (hK _ ?_); clear hK K; simp only [thenQ, blockQ]
          refine AW.seq (AW.reg cd102_3 fun K hK => ?_)
          simp only [g102_3, bR, Nat.reduceEqDiff, reduceIte, Int.reduceBNe, Int.reduceBEq]
          simp only [s2, e_a5, bR, Nat.reduceEqDiff, reduceIte, Int.reduceBNe, Int.reduceBEq]
          rw [stR3_ok s1 s2 (s3.trans (bookL (a5 0 0 0 0 0) 0 (.nils 7) rfl rfl rfl).2.2.symm)]
          simp only [setAt_nil, bR, Nat.reduceEqDiff, reduceIte, Int.reduceBNe, Int.reduceBEq]
          refine .done (hK _ ?_); clear hK K; simp only [thenQ, blockQ]
          refine AW.ret ?_
          simp only [blockQ, thenQ, bR, Nat.reduceEqDiff, reduceIte, Int.reduceBNe, Int.reduceBEq]
          simp only [s2, finV_take (α := Given) (sz := 7) rfl, typR, e_fin, bR, Nat.reduceEqDiff, reduceIte, Int.reduceBNe, Int.reduceBEq]
          rw [e_M, ← hL, hLl, take_row]
end Go.Proofs.Ytkjkbpgdpnapfaa

/-
  FUNCTIONS BY CONTRACT: Delete of slices, over given marks; Take of mark.
-/
namespace Go.Proofs.Ytkjkbpgdpnapfaa
open Go Go.Abs
open Go.Abs.Enc (enc)
def del (l : List Given) (i : Nat) : List Given := l.take i ++ l.drop (i + 1)
theorem del_len {l : List Given} {i : Nat} (h : i < l.length) : (del l i).length = l.length - 1 := by
  simp only [del, List.length_append, List.length_take, List.length_drop]; omega
def delAtPost (l : List Given) (i : Nat) : Post := fun r os' => ∃ q, r = .view 1000000 [] 7 0 (l.length - 1) ∧ os' = rowG 1000000 (del l i) q
theorem sliceV_top {n : Nat} {p : List Nat} {sz k total i j : Nat} (h : i ≤ j) (hj : j ≤ k) (hk : k ≤ total) : sliceV n p sz 0 k total (some (.int .i64 i)) (some (.int .i64 j)) (some (.int .i64 k)) = some .top := by
  simp only [sliceV, bound]
  rw [if_pos ⟨by omega, by omega, by omega, by omega⟩]
theorem sliceV_lh {n : Nat} {p : List Nat} {sz k total i j : Nat} (h : i ≤ j) (hk : j ≤ total) (h0 : i < total) : sliceV n p sz 0 k total (some (.int .i64 i)) (some (.int .i64 j)) none = some (.view n p sz i (j - i)) := by
  simp only [sliceV, bound]
  rw [if_pos ⟨by omega, by omega, by omega⟩, if_neg (by omega)]
  simp
theorem appR_viewS {α : Type} [Enc α] {A : AState} {rest : List G} {esz bytes : Nat} {d : Option Nat} {e : Nat} (z x : AV) {n l : Nat} {xs ys : List α} (hx : srcL A esz x = some (ys.map enc)) (hy : ys ≠ []) (ho : A.o n = some (.box (.agg (xs.map enc)))) (hr : l + ys.length ≤ xs.length) :
    appR A d e esz bytes z x rest (.view n [] esz 0 l) = aops rest ((A.setO n (.box (.agg ((xs.take l ++ (ys ++ xs.drop (l + ys.length))).map enc)))).putO d (.view n [] esz 0 (l + ys.length))) := by
  have h1 := srcL_view (A := A) (esz := esz) (lo := 0) (k := l) ho (by omega)
  have h2 : (AV.agg (xs.map (enc (α := α)))).at [] = some (.agg (xs.map enc)) := rfl
  have h3 : AV.shs (ys.map (enc (α := α))) = AV.shs (((xs.map (enc (α := α))).drop l).take ys.length) := by
    rw [← List.map_drop, ← List.map_take]
    exact shs_eq_len (by rw [List.length_take, List.length_drop]; omega)
  simp only [appR, h1, hx, appO]
  rw [if_neg (by simpa using hy)]
  simp only [ho, h2, List.length_map, Nat.zero_add]
  rw [if_pos hr, if_pos ⟨rfl, by rw [List.length_map, Nat.zero_add]; exact h3⟩]
  simp only [setSeg, setAt_nil, Nat.zero_add, List.length_map, List.map_append, List.map_take, List.map_drop]
theorem appR_viewE {α : Type} [Enc α] {A : AState} {rest : List G} {esz bytes : Nat} {d : Option Nat} {e : Nat} (z x : AV) {n l : Nat} {xs : List α} (hx : srcL A esz x = some []) (ho : A.o n = some (.box (.agg (xs.map enc)))) (hr : l ≤ xs.length) :
    appR A d e esz bytes z x rest (.view n [] esz 0 l) = aops rest (A.putO d (.view n [] esz 0 l)) := by
  have h1 := srcL_view (A := A) (esz := esz) (lo := 0) (k := l) ho (by omega)
  simp only [appR, h1, hx, appO, if_true]
theorem list_del (l : List Given) (i k : Nat) (h : i + 1 < l.length) (xs : List Given) (hx : xs = l ++ List.replicate k g0) (a : List Given) (ha : a = xs.take i ++ (l.drop (i + 1) ++ xs.drop (i + (l.drop (i + 1)).length))) :
    a.take (l.length - 1) ++ (List.replicate 1 g0 ++ a.drop (l.length - 1 + 1)) = del l i ++ List.replicate (k + 1) g0 := by
  have e1 : xs.take i = l.take i := by rw [hx, List.take_append_of_le_length (by omega)]
  have e0 : i + (l.drop (i + 1)).length = l.length - 1 := by rw [List.length_drop]; omega
  have e2 : a = del l i ++ xs.drop (l.length - 1) := by rw [ha, e1, e0, del, List.append_assoc]
  have hl := del_len (l := l) (i := i) (by omega)
  have e3 : a.take (l.length - 1) = del l i := by rw [e2, ← hl, List.take_left]
  have e4 : a.drop (l.length - 1 + 1) = List.replicate k g0 := by
    rw [e2, List.drop_append, hl, List.drop_eq_nil_of_le (by omega), List.nil_append, List.drop_drop]
    have : l.length - 1 + (l.length - 1 + 1 - (l.length - 1)) = l.length := by omega
    rw [this, hx, List.drop_left]
  rw [e3, e4, List.replicate_append_replicate, Nat.add_comm 1 k]
theorem list_del_end (l : List Given) (k : Nat) (i : Nat) (h : i + 1 = l.length) (xs : List Given) (hx : xs = l ++ List.replicate k g0) : xs.take (l.length - 1) ++ (List.replicate 1 g0 ++ xs.drop (l.length - 1 + 1)) = del l i ++ List.replicate (k + 1) g0 := by
  have e1 : l.length - 1 = i := by omega
  have e2 : xs.drop (l.length - 1 + 1) = List.replicate k g0 := by rw [show l.length - 1 + 1 = l.length by omega, hx, List.drop_left]
  have e3 : xs.take (l.length - 1) = del l i := by
    rw [e1, hx, List.take_append_of_le_length (by omega), del, List.drop_eq_nil_of_le (by omega), List.append_nil]
  rw [e2, e3, List.replicate_append_replicate, Nat.add_comm 1 k]
theorem F104 (l : List Given) (i : Nat) (k : Nat) (hi : i < l.length) (hlen : l.length ≤ 1000) :
    CtrO Try.prog 104 [.view 1000000 [] 7 0 l.length, enc (i : Int), enc ((i + 1 : Nat) : Int)] (rowG 1000000 l k) (delAtPost l i) := by
  refine CtrO.mk' Try.func104 ca104 cc104 cr104 (Nat.le_of_ble_eq_true rfl) (Nat.le_of_ble_eq_true rfl) (fun m hm => by rw [isIn_one.1 hm]; exact Nat.le_refl _) (fun hwf W0 D0 E1 => ?_)
  simp only [c104, r104, idx, Nat.zero_add, Nat.reduceAdd]
  simp only [rowG]
  obtain ⟨xs, hxs⟩ : ∃ xs, xs = l ++ List.replicate k g0 := ⟨_, rfl⟩
  have hxl : xs.length = l.length + k := by rw [hxs]; simp
  have htot : (xs.map (enc (α := Given))).length = l.length + k := by rw [List.length_map]; exact hxl
  rw [← hxs]
  have hA : ∀ ts, (mkA ts [(1000000, .box (.agg (xs.map (enc (α := Given)))))]).o 1000000 = some (.box (.agg (xs.map enc))) := fun _ => rfl
  refine AW.seq (AW.reg cd104_0 fun K hK => ?_)
  simp only [g104_0, bR, Nat.reduceEqDiff, reduceIte, Int.reduceBNe, Int.reduceBEq]
  refine .done (hK _ ?_); clear hK K; simp only [thenQ, blockQ]
  refine AW.seq (AW.reg cd104_1 fun K hK => ?_)
  simp only [g104_1, bR, Nat.reduceEqDiff, reduceIte, Int.reduceBNe, Int.reduceBEq]
  simp only [viewR, htot, Option.map_none, Option.map_some, e_int, sliceV_top (show i ≤ i + 1 by omega) (show i + 1 ≤ l.length by omega) (show l.length ≤ l.length + k by omega), bR, Nat.reduceEqDiff, reduceIte, Int.reduceBNe, Int.reduceBEq]
  refine .done (hK _ ?_); clear hK K; simp only [thenQ, blockQ]
  refine AW.seq (AW.seq ?_)
  refine AW.reg cd104_2 fun K hK => ?_
  simp only [g104_2, bR, Nat.reduceEqDiff, reduceIte, Int.reduceBNe, Int.reduceBEq]
  try simp only [typR, useR, okR, e_fin, bR, Nat.reduceEqDiff, reduceIte, Int.reduceBNe, Int.reduceBEq]
  refine .done (hK _ ?_); clear hK K; simp only [thenQ, blockQ]
  refine AW.ite ?_
  simp only [condQ, bR, Nat.reduceEqDiff, reduceIte, Int.reduceBNe, Int.reduceBEq]
  refine ⟨fun h => ?_, fun h => ?_⟩
  · exfalso
    have : (i : Int) = ((i + 1 : Nat) : Int) := by simpa using h
    omega
  refine AW.skip ?_; simp only [thenQ, blockQ, reduceIte, Nat.reduceEqDiff]
  refine AW.seq (AW.reg cd104_4 fun K hK => ?_)
  simp only [g104_4, bR, Nat.reduceEqDiff, reduceIte, Int.reduceBNe, Int.reduceBEq]
  simp only [viewR, bR, Nat.reduceEqDiff, reduceIte, Int.reduceBNe, Int.reduceBEq]
  refine .done (hK _ ?_); clear hK K; simp only [thenQ, blockQ]
  by_cases hl1 : i + 1 < l.length
  · have hd : (xs.drop (i + 1)).take (l.length - (i + 1)) = l.drop (i + 1) := by
      rw [hxs, List.drop_append_of_le_length (by omega), List.take_append_of_le_length (by rw [List.length_drop]; omega), List.take_of_length_le (by rw [List.length_drop]; omega)]
    have hdl : i + (l.drop (i + 1)).length = l.length - 1 := by rw [List.length_drop]; omega
    obtain ⟨b, hb⟩ : ∃ b, b = xs.take i ++ (l.drop (i + 1) ++ xs.drop (i + (l.drop (i + 1)).length)) := ⟨_, rfl⟩
    have hbl : b.length = l.length + k := by rw [hb]; simp; omega
    have hcont := list_del l i k hl1 xs hxs b hb
    refine AW.seq (AW.reg cd104_5 fun K hK => ?_)
    simp only [g104_5, bR, Nat.reduceEqDiff, reduceIte, Int.reduceBNe, Int.reduceBEq]
    simp only [viewR, htot, Option.map_none, Option.map_some, sliceV_hi (show i ≤ l.length + k by omega) (show 0 < l.length + k by omega), sliceV_lo (show i + 1 ≤ l.length by omega) (show l.length ≤ l.length + k by omega) (show i + 1 < l.length + k by omega), bR, Nat.reduceEqDiff, reduceIte, Int.reduceBNe, Int.reduceBEq]
    rw [appR_viewS (esz := 7) (xs := xs) (ys := l.drop (i + 1)) _ _ (by rw [srcL_view (xs := xs) (hA _) (by omega), hd]) (by simp; omega) (hA _) (by rw [List.length_drop]; omega)]
    rw [← hb, hdl]
    simp only [bR, Nat.reduceEqDiff, reduceIte, Int.reduceBNe, Int.reduceBEq]
    refine .done (hK _ ?_); clear hK K; simp only [thenQ, blockQ]
    have htb : (b.map (enc (α := Given))).length = l.length + k := by rw [List.length_map]; exact hbl
    have hB : ∀ ts os, (mkA ts ((1000000, .box (.agg (b.map (enc (α := Given))))) :: os)).o 1000000 = some (.box (.agg (b.map enc))) := fun _ _ => rfl
    refine AW.seq (AW.reg cd104_6 fun K hK => ?_)
    simp only [g104_6, bR, Nat.reduceEqDiff, reduceIte, Int.reduceBNe, Int.reduceBEq]
    simp only [viewR, htb, Option.map_none, Option.map_some, e_g0, bR, Nat.reduceEqDiff, reduceIte, Int.reduceBNe, Int.reduceBEq]
    rw [sliceV_lh (show l.length - 1 ≤ l.length by omega) (show l.length ≤ l.length + k by omega) (by omega)]
    simp only [viewR, bR, Nat.reduceEqDiff, reduceIte, Int.reduceBNe, Int.reduceBEq]
    rw [clrO_enc (xs := b) g0 (hB _ _) (by omega)]
    have hone : l.length - (l.length - 1) = 1 := by omega
    simp only [hone, hcont, bR, Nat.reduceEqDiff, reduceIte, Int.reduceBNe, Int.reduceBEq]
    refine .done (hK _ ?_); clear hK K; simp only [thenQ, blockQ]
    refine AW.seq (AW.reg cd104_7 fun K hK => ?_)
    simp only [g104_7, bR, Nat.reduceEqDiff, reduceIte, Int.reduceBNe, Int.reduceBEq]
    refine .done (hK _ ?_); clear hK K; simp only [thenQ, blockQ]
    refine AW.ret ?_
    simp only [blockQ, thenQ, retO_ret]
    exact ⟨rowG 1000000 (del l i) (k + 1), [.view 1000000 [] 7 0 (l.length - 1)], held1 rfl (fun p => map_only p _), ⟨⟨_, rfl, .inl ⟨rfl, rfl, rfl⟩⟩, trivial⟩, k + 1, rfl, rfl⟩
  · have hie : i + 1 = l.length := by omega
    obtain ⟨b, hb⟩ : ∃ b, b = xs := ⟨_, rfl⟩
    have hbl : b.length = l.length + k := by rw [hb]; exact hxl
    have hcont := list_del_end l k i hie xs hxs
    rw [← hb] at hcont
    have hi1 : i = l.length - 1 := by omega
    obtain ⟨y, hy⟩ := sliceV_any (n := 1000000) (p := []) (sz := 7) (show i + 1 ≤ l.length by omega) (show l.length ≤ l.length + k by omega)
    have hye : ∀ ts, srcL (mkA ts [(1000000, .box (.agg (xs.map (enc (α := Given)))))]) 7 y = some [] := fun ts => by
      by_cases hk : k = 0
      · have : sliceV 1000000 [] 7 0 l.length (l.length + k) (some (.int .i64 ((i + 1 : Nat) : Int))) none none = some (.c0 7) := by
          simp only [sliceV, bound]
          rw [if_pos ⟨by omega, by omega, by omega⟩, if_pos (by omega)]
        rw [this] at hy; cases hy; rfl
      · rw [sliceV_lo (show i + 1 ≤ l.length by omega) (show l.length ≤ l.length + k by omega) (by omega)] at hy
        cases hy
        rw [srcL_view (xs := xs) (hA _) (by omega), hie]
        simp
    refine AW.seq (AW.reg cd104_5 fun K hK => ?_)
    simp only [g104_5, bR, Nat.reduceEqDiff, reduceIte, Int.reduceBNe, Int.reduceBEq]
    simp only [viewR, htot, Option.map_none, Option.map_some, sliceV_hi (show i ≤ l.length + k by omega) (show 0 < l.length + k by omega), hy, bR, Nat.reduceEqDiff, reduceIte, Int.reduceBNe, Int.reduceBEq]
    rw [appR_viewE (esz := 7) (xs := xs) _ _ (hye _) (hA _) (by omega)]
    rw [hi1, ← hb]
    simp only [bR, Nat.reduceEqDiff, reduceIte, Int.reduceBNe, Int.reduceBEq]
    refine .done (hK _ ?_); clear hK K; simp only [thenQ, blockQ]
    have htb : (b.map (enc (α := Given))).length = l.length + k := by rw [List.length_map]; exact hbl
    have hB : ∀ ts os, (mkA ts ((1000000, .box (.agg (b.map (enc (α := Given))))) :: os)).o 1000000 = some (.box (.agg (b.map enc))) := fun _ _ => rfl
    refine AW.seq (AW.reg cd104_6 fun K hK => ?_)
    simp only [g104_6, bR, Nat.reduceEqDiff, reduceIte, Int.reduceBNe, Int.reduceBEq]
    simp only [viewR, htb, Option.map_none, Option.map_some, e_g0, bR, Nat.reduceEqDiff, reduceIte, Int.reduceBNe, Int.reduceBEq]
    rw [sliceV_lh (show l.length - 1 ≤ l.length by omega) (show l.length ≤ l.length + k by omega) (by omega)]
    simp only [viewR, bR, Nat.reduceEqDiff, reduceIte, Int.reduceBNe, Int.reduceBEq]
    rw [clrO_enc (xs := b) g0 (hB _ _) (by omega)]
    have hone : l.length - (l.length - 1) = 1 := by omega
    simp only [hone, hcont, bR, Nat.reduceEqDiff, reduceIte, Int.reduceBNe, Int.reduceBEq]
    refine .done (hK _ ?_); clear hK K; simp only [thenQ, blockQ]
    refine AW.seq (AW.reg cd104_7 fun K hK => ?_)
    simp only [g104_7, bR, Nat.reduceEqDiff, reduceIte, Int.reduceBNe, Int.reduceBEq]
    refine .done (hK _ ?_); clear hK K; simp only [thenQ, blockQ]
    refine AW.ret ?_
    simp only [blockQ, thenQ, retO_ret]
    exact ⟨rowG 1000000 (del l i) (k + 1), [.view 1000000 [] 7 0 (l.length - 1)], held1 rfl (fun p => map_only p _), ⟨⟨_, rfl, .inl ⟨rfl, rfl, rfl⟩⟩, trivial⟩, k + 1, rfl, rfl⟩
end Go.Proofs.Ytkjkbpgdpnapfaa

/-
  FUNCTIONS OF mark BY CONTRACT: Give, Add, Take.
-/
namespace Go.Proofs.Ytkjkbpgdpnapfaa
open Go Go.Abs
open Go.Abs.Enc (enc)
/-- No book. -/
def noM : Marks := ⟨a5 0 0 0 0 0, 0, []⟩
def withM (m : Marks) (g : Given) : Marks := ⟨m.wear, m.fls, ins m.given (posOf m.given g.owner) g⟩
def giveR (m : Marks) (o : Int) : Marks × Int := if askedOf m o ≠ 0 then (noM, askedOf m o) else if foundAt m.given o then (noM, 15) else if (nextOf m).2 ≠ 0 then (noM, (nextOf m).2) else (withM m ⟨o, (nextOf m).1⟩, 0)
def addR (m : Marks) (g : Given) : Marks × Int := if askedOf m g.owner ≠ 0 then (noM, askedOf m g.owner) else if foundAt m.given g.owner then (noM, 15) else if okMark g.mark = false then (noM, 10) else if m.given.length = 40 then (noM, 16) else if blocked m g.mark then (noM, 19) else (withM m g, 0)
def takeR (m : Marks) (o : Int) : Marks × Int := if askedOf m o ≠ 0 then (noM, askedOf m o) else if foundAt m.given o then (⟨m.wear, m.fls, del m.given (posOf m.given o)⟩, 0) else (noM, 3)
theorem asked0 {m : Marks} {o : Int} (h : askedOf m o = 0) : okM m = true ∧ 1 ≤ o ∧ o ≤ 99 := by
  cases hm : okM m with
  | false => simp [askedOf, hm] at h
  | true =>
    cases ho : inR 1 99 o with
    | false => simp [askedOf, hm, ho] at h
    | true =>
      simp only [inR, Bool.and_eq_true, decide_eq_true_eq] at ho
      exact ⟨rfl, ho⟩
theorem F57 (m : Marks) (o : Int) : Ctr Try.prog 57 [enc m, enc o] (.tuple [enc (giveR m o).1, enc (giveR m o).2]) := by
  refine Ctr.mk' Try.func57 ca57 cc57 cr57 (Nat.le_of_ble_eq_true rfl) (fun hwf W0 D0 E1 => ?_)
  simp only [c57, r57, idx, Nat.zero_add, Nat.reduceAdd]
  obtain ⟨z1, z2, z3⟩ := bookL (a5 0 0 0 0 0) 0 (.nils 7) rfl rfl rfl
  refine AW.seq (AW.reg cd57_0 fun K hK => ?_)
  simp only [g57_0, bR, Nat.reduceEqDiff, reduceIte, Int.reduceBNe, Int.reduceBEq]
  simp only [e_isVal, e_a5, bR, Nat.reduceEqDiff, reduceIte, Int.reduceBNe, Int.reduceBEq]
  refine .done (hK _ ?_); clear hK K; simp only [thenQ, blockQ]
  refine AW.seq ?_
  refine AW.seq (AW.reg cd57_1 fun K hK => ?_)
  simp only [g57_1, bR, Nat.reduceEqDiff, reduceIte, Int.reduceBNe, Int.reduceBEq]
  try simp only [typR, useR, okR, e_fin, bR, Nat.reduceEqDiff, reduceIte, Int.reduceBNe, Int.reduceBEq]
  refine .flat _ (F90 m o) rfl ?_
  try simp only [typR, useR, okR, e_fin, bR, Nat.reduceEqDiff, reduceIte, Int.reduceBNe, Int.reduceBEq]
  refine .done (hK _ ?_); clear hK K; simp only [thenQ, blockQ]
  by_cases h0 : askedOf m o = 0
  case neg =>
    have hne : (askedOf m o != 0) = true := by simpa using h0
    refine AW.seq (AW.reg cd57_2 fun K hK => ?_)
    simp only [g57_2, bR, Nat.reduceEqDiff, reduceIte, Int.reduceBNe, Int.reduceBEq]
    simp only [hne, bR, Nat.reduceEqDiff, reduceIte, Int.reduceBNe, Int.reduceBEq]
    refine .done (hK _ ?_); clear hK K; simp only [thenQ, blockQ]
    refine AW.ite ?_
    simp only [condQ, bR, Nat.reduceEqDiff, reduceIte, Int.reduceBNe, Int.reduceBEq]
    refine ⟨fun h => ?_, fun h => ?_⟩
    · refine AW.seq (AW.reg cd57_3 fun K hK => ?_)
      simp only [g57_3, bR, Nat.reduceEqDiff, reduceIte, Int.reduceBNe, Int.reduceBEq]
      simp only [setParts, e_a5, bR, Nat.reduceEqDiff, reduceIte, Int.reduceBNe, Int.reduceBEq]
      rw [stR3_ok z1 z2 rfl]
      simp only [setAt_nil, bR, Nat.reduceEqDiff, reduceIte, Int.reduceBNe, Int.reduceBEq]
      refine .done (hK _ ?_); clear hK K; simp only [thenQ, blockQ]
      have hr : giveR m o = (noM, askedOf m o) := by simp [giveR, h0]
      refine AW.ret ?_
      simp only [blockQ, thenQ, bR, Nat.reduceEqDiff, reduceIte, Int.reduceBNe, Int.reduceBEq]
      simp only [z2, typR, e_fin, bR, Nat.reduceEqDiff, reduceIte, Int.reduceBNe, Int.reduceBEq]
      rw [hr]; rfl
    · cases h
  obtain ⟨hm, ho⟩ := asked0 h0
  have hlen := okM_len hm
  rw [h0]
  refine AW.seq (AW.reg cd57_2 fun K hK => ?_)
  simp only [g57_2, bR, Nat.reduceEqDiff, reduceIte, Int.reduceBNe, Int.reduceBEq]
  refine .done (hK _ ?_); clear hK K; simp only [thenQ, blockQ]
  refine AW.ite ?_
  simp only [condQ, bR, Nat.reduceEqDiff, reduceIte, Int.reduceBNe, Int.reduceBEq]
  refine ⟨fun h => ?_, fun h => ?_⟩
  · cases h
  refine AW.skip ?_; simp only [thenQ, blockQ, reduceIte, Nat.reduceEqDiff]
  refine AW.seq ?_
  refine AW.seq (AW.reg cd57_4 fun K hK => ?_)
  simp only [g57_4, bR, Nat.reduceEqDiff, reduceIte, Int.reduceBNe, Int.reduceBEq]
  try simp only [typR, useR, okR, e_fin, bR, Nat.reduceEqDiff, reduceIte, Int.reduceBNe, Int.reduceBEq]
  refine .lead _ (F91 m o hm ho) ?_
  try simp only [typR, useR, okR, e_fin, bR, Nat.reduceEqDiff, reduceIte, Int.reduceBNe, Int.reduceBEq]
  refine .done (hK _ ?_); clear hK K; simp only [thenQ, blockQ]
  generalize hf : foundAt m.given o = bf
  cases bf
  case true =>
    refine AW.seq (AW.reg cd57_5 fun K hK => ?_)
    simp only [g57_5, bR, Nat.reduceEqDiff, reduceIte, Int.reduceBNe, Int.reduceBEq]
    refine .done (hK _ ?_); clear hK K; simp only [thenQ, blockQ]
    refine AW.ite ?_
    simp only [condQ, bR, Nat.reduceEqDiff, reduceIte, Int.reduceBNe, Int.reduceBEq]
    refine ⟨fun h => ?_, fun h => ?_⟩
    · refine AW.seq (AW.reg cd57_6 fun K hK => ?_)
      simp only [g57_6, bR, Nat.reduceEqDiff, reduceIte, Int.reduceBNe, Int.reduceBEq]
      simp only [setParts, e_a5, bR, Nat.reduceEqDiff, reduceIte, Int.reduceBNe, Int.reduceBEq]
      rw [stR3_ok z1 z2 rfl]
      simp only [setAt_nil, bR, Nat.reduceEqDiff, reduceIte, Int.reduceBNe, Int.reduceBEq]
      refine .done (hK _ ?_); clear hK K; simp only [thenQ, blockQ]
      have hr : giveR m o = (noM, 15) := by simp [giveR, h0, hf]
      refine AW.ret ?_
      simp only [blockQ, thenQ, bR, Nat.reduceEqDiff, reduceIte, Int.reduceBNe, Int.reduceBEq]
      simp only [z2, typR, e_fin, bR, Nat.reduceEqDiff, reduceIte, Int.reduceBNe, Int.reduceBEq]
      rw [hr]; rfl
    · cases h
  refine AW.seq (AW.reg cd57_5 fun K hK => ?_)
  simp only [g57_5, bR, Nat.reduceEqDiff, reduceIte, Int.reduceBNe, Int.reduceBEq]
  refine .done (hK _ ?_); clear hK K; simp only [thenQ, blockQ]
  refine AW.ite ?_
  simp only [condQ, bR, Nat.reduceEqDiff, reduceIte, Int.reduceBNe, Int.reduceBEq]
  refine ⟨fun h => ?_, fun h => ?_⟩
  · cases h
  refine AW.skip ?_; simp only [thenQ, blockQ, reduceIte, Nat.reduceEqDiff]
  refine AW.seq (AW.reg cd57_7 fun K hK => ?_)
  simp only [g57_7, bR, Nat.reduceEqDiff, reduceIte, Int.reduceBNe, Int.reduceBEq]
  try simp only [typR, useR, okR, e_fin, bR, Nat.reduceEqDiff, reduceIte, Int.reduceBNe, Int.reduceBEq]
  refine .lead _ (F55 m) ?_
  simp only [typR, e_a6, stR3_6, bR, Nat.reduceEqDiff, reduceIte, Int.reduceBNe, Int.reduceBEq]
  refine .done (hK _ ?_); clear hK K; simp only [thenQ, blockQ]
  refine AW.seq (AW.seq ?_)
  by_cases hn : (nextOf m).2 = 0
  case neg =>
    have hne : ((nextOf m).2 != 0) = true := by simpa using hn
    refine AW.reg cd57_8 fun K hK => ?_
    simp only [g57_8, bR, Nat.reduceEqDiff, reduceIte, Int.reduceBNe, Int.reduceBEq]
    simp only [hne, bR, Nat.reduceEqDiff, reduceIte, Int.reduceBNe, Int.reduceBEq]
    refine .done (hK _ ?_); clear hK K; simp only [thenQ, blockQ]
    refine AW.ite ?_
    simp only [condQ, bR, Nat.reduceEqDiff, reduceIte, Int.reduceBNe, Int.reduceBEq]
    refine ⟨fun h => ?_, fun h => ?_⟩
    · refine AW.seq (AW.reg cd57_9 fun K hK => ?_)
      simp only [g57_9, bR, Nat.reduceEqDiff, reduceIte, Int.reduceBNe, Int.reduceBEq]
      simp only [setParts, e_a5, bR, Nat.reduceEqDiff, reduceIte, Int.reduceBNe, Int.reduceBEq]
      rw [stR3_ok z1 z2 rfl]
      simp only [setAt_nil, bR, Nat.reduceEqDiff, reduceIte, Int.reduceBNe, Int.reduceBEq]
      refine .done (hK _ ?_); clear hK K; simp only [thenQ, blockQ]
      have hr : giveR m o = (noM, (nextOf m).2) := by simp [giveR, h0, hf, hn]
      refine AW.ret ?_
      simp only [blockQ, thenQ, bR, Nat.reduceEqDiff, reduceIte, Int.reduceBNe, Int.reduceBEq]
      simp only [z2, typR, e_fin, bR, Nat.reduceEqDiff, reduceIte, Int.reduceBNe, Int.reduceBEq]
      rw [hr]; rfl
    · cases h
  rw [hn]
  refine AW.reg cd57_8 fun K hK => ?_
  simp only [g57_8, bR, Nat.reduceEqDiff, reduceIte, Int.reduceBNe, Int.reduceBEq]
  refine .done (hK _ ?_); clear hK K; simp only [thenQ, blockQ]
  refine AW.ite ?_
  simp only [condQ, bR, Nat.reduceEqDiff, reduceIte, Int.reduceBNe, Int.reduceBEq]
  refine ⟨fun h => ?_, fun h => ?_⟩
  · cases h
  refine AW.skip ?_; simp only [thenQ, blockQ, reduceIte, Nat.reduceEqDiff]
  refine AW.seq (AW.reg cd57_10 fun K hK => ?_)
  simp only [g57_10, bR, Nat.reduceEqDiff, reduceIte, Int.reduceBNe, Int.reduceBEq]
  simp only [typR, useR, okR, e_fin, e_a6, bldG, e_G, bR, Nat.reduceEqDiff, reduceIte, Int.reduceBNe, Int.reduceBEq]
  refine .lead _ (F102 m ⟨o, (nextOf m).1⟩ hm ho) ?_
  simp only [bR, Nat.reduceEqDiff, reduceIte, Int.reduceBNe, Int.reduceBEq]
  rw [stR3_ok (e_isVal _) (by rw [e_okS]; rfl) ((e_sh _).trans z3.symm)]
  simp only [setAt_nil, bR, Nat.reduceEqDiff, reduceIte, Int.reduceBNe, Int.reduceBEq]
  refine .done (hK _ ?_); clear hK K; simp only [thenQ, blockQ]
  have hr : giveR m o = (withM m ⟨o, (nextOf m).1⟩, 0) := by simp [giveR, h0, hf, hn]
  refine AW.ret ?_
  simp only [blockQ, thenQ, bR, Nat.reduceEqDiff, reduceIte, Int.reduceBNe, Int.reduceBEq]
  simp only [typR, e_fin, bR, Nat.reduceEqDiff, reduceIte, Int.reduceBNe, Int.reduceBEq]
  rw [hr]; rfl
theorem F59 (m : Marks) (g : Given) : Ctr Try.prog 59 [enc m, enc g] (.tuple [enc (addR m g).1, enc (addR m g).2]) := by
  refine Ctr.mk' Try.func59 ca59 cc59 cr59 (Nat.le_of_ble_eq_true rfl) (fun hwf W0 D0 E1 => ?_)
  simp only [c59, r59, idx, Nat.zero_add, Nat.reduceAdd]
  obtain ⟨z1, z2, z3⟩ := bookL (a5 0 0 0 0 0) 0 (.nils 7) rfl rfl rfl
  refine AW.seq (AW.reg cd59_0 fun K hK => ?_)
  simp only [g59_0, bR, Nat.reduceEqDiff, reduceIte, Int.reduceBNe, Int.reduceBEq]
  simp only [e_isVal, e_a5, bR, Nat.reduceEqDiff, reduceIte, Int.reduceBNe, Int.reduceBEq]
  refine .done (hK _ ?_); clear hK K; simp only [thenQ, blockQ]
  refine AW.seq ?_
  refine AW.seq (AW.reg cd59_1 fun K hK => ?_)
  simp only [g59_1, bR, Nat.reduceEqDiff, reduceIte, Int.reduceBNe, Int.reduceBEq]
  try simp only [typR, useR, okR, e_fin, bR, Nat.reduceEqDiff, reduceIte, Int.reduceBNe, Int.reduceBEq]
  refine .flat _ (F90 m g.owner) rfl ?_
  try simp only [typR, useR, okR, e_fin, bR, Nat.reduceEqDiff, reduceIte, Int.reduceBNe, Int.reduceBEq]
  refine .done (hK _ ?_); clear hK K; simp only [thenQ, blockQ]
  by_cases h0 : askedOf m g.owner = 0
  case neg =>
    have hne : (askedOf m g.owner != 0) = true := by simpa using h0
    refine AW.seq (AW.reg cd59_2 fun K hK => ?_)
    simp only [g59_2, bR, Nat.reduceEqDiff, reduceIte, Int.reduceBNe, Int.reduceBEq]
    simp only [hne, bR, Nat.reduceEqDiff, reduceIte, Int.reduceBNe, Int.reduceBEq]
    refine .done (hK _ ?_); clear hK K; simp only [thenQ, blockQ]
    refine AW.ite ?_
    simp only [condQ, bR, Nat.reduceEqDiff, reduceIte, Int.reduceBNe, Int.reduceBEq]
    refine ⟨fun h => ?_, fun h => ?_⟩
    · refine AW.seq (AW.reg cd59_3 fun K hK => ?_)
      simp only [g59_3, bR, Nat.reduceEqDiff, reduceIte, Int.reduceBNe, Int.reduceBEq]
      simp only [setParts, e_a5, bR, Nat.reduceEqDiff, reduceIte, Int.reduceBNe, Int.reduceBEq]
      rw [stR3_ok z1 z2 rfl]
      simp only [setAt_nil, bR, Nat.reduceEqDiff, reduceIte, Int.reduceBNe, Int.reduceBEq]
      refine .done (hK _ ?_); clear hK K; simp only [thenQ, blockQ]
      have hr : addR m g = (noM, askedOf m g.owner) := by simp [addR, h0]
      refine AW.ret ?_
      simp only [blockQ, thenQ, bR, Nat.reduceEqDiff, reduceIte, Int.reduceBNe, Int.reduceBEq]
      simp only [z2, typR, e_fin, bR, Nat.reduceEqDiff, reduceIte, Int.reduceBNe, Int.reduceBEq]
      rw [hr]; rfl
    · cases h
  obtain ⟨hm, ho⟩ := asked0 h0
  have hlen := okM_len hm
  rw [h0]
  refine AW.seq (AW.reg cd59_2 fun K hK => ?_)
  simp only [g59_2, bR, Nat.reduceEqDiff, reduceIte, Int.reduceBNe, Int.reduceBEq]
  refine .done (hK _ ?_); clear hK K; simp only [thenQ, blockQ]
  refine AW.ite ?_
  simp only [condQ, bR, Nat.reduceEqDiff, reduceIte, Int.reduceBNe, Int.reduceBEq]
  refine ⟨fun h => ?_, fun h => ?_⟩
  · cases h
  refine AW.skip ?_; simp only [thenQ, blockQ, reduceIte, Nat.reduceEqDiff]
  refine AW.seq (AW.reg cd59_4 fun K hK => ?_)
  simp only [g59_4, bR, Nat.reduceEqDiff, reduceIte, Int.reduceBNe, Int.reduceBEq]
  try simp only [typR, useR, okR, e_fin, bR, Nat.reduceEqDiff, reduceIte, Int.reduceBNe, Int.reduceBEq]
  refine .lead _ (F91 m g.owner hm ho) ?_
  try simp only [typR, useR, okR, e_fin, bR, Nat.reduceEqDiff, reduceIte, Int.reduceBNe, Int.reduceBEq]
  refine .done (hK _ ?_); clear hK K; simp only [thenQ, blockQ]
  generalize hf : foundAt m.given g.owner = bf
  refine AW.seq (AW.block ?_)
  cases bf
  case true =>
    refine AW.seq (AW.reg cd59_5 fun K hK => ?_)
    simp only [g59_5, bR, Nat.reduceEqDiff, reduceIte, Int.reduceBNe, Int.reduceBEq]
    refine .done (hK _ ?_); clear hK K; simp only [thenQ, blockQ]
    refine AW.ite ?_
    simp only [condQ, bR, Nat.reduceEqDiff, reduceIte, Int.reduceBNe, Int.reduceBEq]
    refine ⟨fun h => ?_, fun h => ?_⟩
    · refine AW.seq (AW.reg cd59_6 fun K hK => ?_)
      simp only [g59_6, bR, Nat.reduceEqDiff, reduceIte, Int.reduceBNe, Int.reduceBEq]
      simp only [setParts, e_a5, bR, Nat.reduceEqDiff, reduceIte, Int.reduceBNe, Int.reduceBEq]
      rw [stR3_ok z1 z2 rfl]
      simp only [setAt_nil, bR, Nat.reduceEqDiff, reduceIte, Int.reduceBNe, Int.reduceBEq]
      refine .done (hK _ ?_); clear hK K; simp only [thenQ, blockQ]
      have hr : addR m g = (noM, 15) := by simp [addR, h0, hf]
      refine AW.ret ?_
      simp only [blockQ, thenQ, bR, Nat.reduceEqDiff, reduceIte, Int.reduceBNe, Int.reduceBEq]
      simp only [z2, typR, e_fin, bR, Nat.reduceEqDiff, reduceIte, Int.reduceBNe, Int.reduceBEq]
      rw [hr]; rfl
    · cases h
  refine AW.seq (AW.reg cd59_5 fun K hK => ?_)
  simp only [g59_5, bR, Nat.reduceEqDiff, reduceIte, Int.reduceBNe, Int.reduceBEq]
  refine .done (hK _ ?_); clear hK K; simp only [thenQ, blockQ]
  refine AW.ite ?_
  simp only [condQ, bR, Nat.reduceEqDiff, reduceIte, Int.reduceBNe, Int.reduceBEq]
  refine ⟨fun h => ?_, fun h => ?_⟩
  · cases h
  refine AW.seq (AW.reg cd59_7 fun K hK => ?_)
  simp only [g59_7, bR, Nat.reduceEqDiff, reduceIte, Int.reduceBNe, Int.reduceBEq]
  simp only [typR, useR, okR, e_fin, bR, Nat.reduceEqDiff, reduceIte, Int.reduceBNe, Int.reduceBEq]
  refine .flat _ (F93 g.mark) rfl ?_
  generalize hk : okMark g.mark = bk
  cases bk
  case false =>
    try simp only [typR, useR, okR, e_fin, bR, Nat.reduceEqDiff, reduceIte, Int.reduceBNe, Int.reduceBEq]
    refine .done (hK _ ?_); clear hK K; simp only [thenQ, blockQ]
    refine AW.ite ?_
    simp only [condQ, bR, Nat.reduceEqDiff, reduceIte, Int.reduceBNe, Int.reduceBEq]
    refine ⟨fun h => ?_, fun h => ?_⟩
    · refine AW.seq (AW.reg cd59_8 fun K hK => ?_)
      simp only [g59_8, bR, Nat.reduceEqDiff, reduceIte, Int.reduceBNe, Int.reduceBEq]
      simp only [setParts, e_a5, bR, Nat.reduceEqDiff, reduceIte, Int.reduceBNe, Int.reduceBEq]
      rw [stR3_ok z1 z2 rfl]
      simp only [setAt_nil, bR, Nat.reduceEqDiff, reduceIte, Int.reduceBNe, Int.reduceBEq]
      refine .done (hK _ ?_); clear hK K; simp only [thenQ, blockQ]
      have hr : addR m g = (noM, 10) := by simp [addR, h0, hf, hk]
      refine AW.ret ?_
      simp only [blockQ, thenQ, bR, Nat.reduceEqDiff, reduceIte, Int.reduceBNe, Int.reduceBEq]
      simp only [z2, typR, e_fin, bR, Nat.reduceEqDiff, reduceIte, Int.reduceBNe, Int.reduceBEq]
      rw [hr]; rfl
    · cases h
  try simp only [typR, useR, okR, e_fin, bR, Nat.reduceEqDiff, reduceIte, Int.reduceBNe, Int.reduceBEq]
  refine .done (hK _ ?_); clear hK K; simp only [thenQ, blockQ]
  refine AW.ite ?_
  simp only [condQ, bR, Nat.reduceEqDiff, reduceIte, Int.reduceBNe, Int.reduceBEq]
  refine ⟨fun h => ?_, fun h => ?_⟩
  · cases h
  refine AW.seq (AW.reg cd59_9 fun K hK => ?_)
  simp only [g59_9, bR, Nat.reduceEqDiff, reduceIte, Int.reduceBNe, Int.reduceBEq]
  try simp only [typR, useR, okR, e_fin, bR, Nat.reduceEqDiff, reduceIte, Int.reduceBNe, Int.reduceBEq]
  refine .done (hK _ ?_); clear hK K; simp only [thenQ, blockQ]
  by_cases h40 : m.given.length = 40
  case pos =>
    refine AW.ite ?_
    simp only [condQ, bR, Nat.reduceEqDiff, reduceIte, Int.reduceBNe, Int.reduceBEq]
    refine ⟨fun h => ?_, fun h => ?_⟩
    · refine AW.seq (AW.reg cd59_10 fun K hK => ?_)
      simp only [g59_10, bR, Nat.reduceEqDiff, reduceIte, Int.reduceBNe, Int.reduceBEq]
      simp only [setParts, e_a5, bR, Nat.reduceEqDiff, reduceIte, Int.reduceBNe, Int.reduceBEq]
      rw [stR3_ok z1 z2 rfl]
      simp only [setAt_nil, bR, Nat.reduceEqDiff, reduceIte, Int.reduceBNe, Int.reduceBEq]
      refine .done (hK _ ?_); clear hK K; simp only [thenQ, blockQ]
      have hr : addR m g = (noM, 16) := by simp [addR, h0, hf, hk, h40]
      refine AW.ret ?_
      simp only [blockQ, thenQ, bR, Nat.reduceEqDiff, reduceIte, Int.reduceBNe, Int.reduceBEq]
      simp only [z2, typR, e_fin, bR, Nat.reduceEqDiff, reduceIte, Int.reduceBNe, Int.reduceBEq]
      rw [hr]; rfl
    · simp at h; omega
  refine AW.ite ?_
  simp only [condQ, bR, Nat.reduceEqDiff, reduceIte, Int.reduceBNe, Int.reduceBEq]
  refine ⟨fun h => ?_, fun h => ?_⟩
  · simp at h; omega
  refine AW.seq (AW.reg cd59_11 fun K hK => ?_)
  simp only [g59_11, bR, Nat.reduceEqDiff, reduceIte, Int.reduceBNe, Int.reduceBEq]
  simp only [typR, useR, okR, e_fin, bR, Nat.reduceEqDiff, reduceIte, Int.reduceBNe, Int.reduceBEq]
  refine .flat _ (F98 m m.given g.mark (okM_mark hm) hk) rfl ?_
  have hbl : (m.given.any fun h => tooNear m h.mark g.mark) = blocked m g.mark := rfl
  rw [hbl]
  generalize hb : blocked m g.mark = bb
  cases bb
  case true =>
    try simp only [typR, useR, okR, e_fin, bR, Nat.reduceEqDiff, reduceIte, Int.reduceBNe, Int.reduceBEq]
    refine .done (hK _ ?_); clear hK K; simp only [thenQ, blockQ]
    refine AW.ite ?_
    simp only [condQ, bR, Nat.reduceEqDiff, reduceIte, Int.reduceBNe, Int.reduceBEq]
    refine ⟨fun h => ?_, fun h => ?_⟩
    · refine AW.seq (AW.reg cd59_12 fun K hK => ?_)
      simp only [g59_12, bR, Nat.reduceEqDiff, reduceIte, Int.reduceBNe, Int.reduceBEq]
      simp only [setParts, e_a5, bR, Nat.reduceEqDiff, reduceIte, Int.reduceBNe, Int.reduceBEq]
      rw [stR3_ok z1 z2 rfl]
      simp only [setAt_nil, bR, Nat.reduceEqDiff, reduceIte, Int.reduceBNe, Int.reduceBEq]
      refine .done (hK _ ?_); clear hK K; simp only [thenQ, blockQ]
      have hr : addR m g = (noM, 19) := by simp [addR, h0, hf, hk, h40, hb]
      refine AW.ret ?_
      simp only [blockQ, thenQ, bR, Nat.reduceEqDiff, reduceIte, Int.reduceBNe, Int.reduceBEq]
      simp only [z2, typR, e_fin, bR, Nat.reduceEqDiff, reduceIte, Int.reduceBNe, Int.reduceBEq]
      rw [hr]; rfl
    · cases h
  try simp only [typR, useR, okR, e_fin, bR, Nat.reduceEqDiff, reduceIte, Int.reduceBNe, Int.reduceBEq]
  refine .done (hK _ ?_); clear hK K; simp only [thenQ, blockQ]
  refine AW.ite ?_
  simp only [condQ, bR, Nat.reduceEqDiff, reduceIte, Int.reduceBNe, Int.reduceBEq]
  refine ⟨fun h => ?_, fun h => ?_⟩
  · cases h
  refine AW.skip ?_; simp only [thenQ, blockQ, reduceIte, Nat.reduceEqDiff]
  refine AW.seq (AW.reg cd59_13 fun K hK => ?_)
  simp only [g59_13, bR, Nat.reduceEqDiff, reduceIte, Int.reduceBNe, Int.reduceBEq]
  simp only [typR, useR, okR, e_fin, bR, Nat.reduceEqDiff, reduceIte, Int.reduceBNe, Int.reduceBEq]
  refine .lead _ (F102 m g hm ho) ?_
  simp only [bR, Nat.reduceEqDiff, reduceIte, Int.reduceBNe, Int.reduceBEq]
  rw [stR3_ok (e_isVal _) (by rw [e_okS]; rfl) ((e_sh _).trans z3.symm)]
  simp only [setAt_nil, bR, Nat.reduceEqDiff, reduceIte, Int.reduceBNe, Int.reduceBEq]
  refine .done (hK _ ?_); clear hK K; simp only [thenQ, blockQ]
  have hr : addR m g = (withM m g, 0) := by simp [addR, h0, hf, hk, h40, hb]
  refine AW.ret ?_
  simp only [blockQ, thenQ, bR, Nat.reduceEqDiff, reduceIte, Int.reduceBNe, Int.reduceBEq]
  simp only [typR, e_fin, bR, Nat.reduceEqDiff, reduceIte, Int.reduceBNe, Int.reduceBEq]
  rw [hr]; rfl
theorem F61 (m : Marks) (o : Int) : Ctr Try.prog 61 [enc m, enc o] (.tuple [enc (takeR m o).1, enc (takeR m o).2]) := by
  refine Ctr.mk' Try.func61 ca61 cc61 cr61 (Nat.le_of_ble_eq_true rfl) (fun hwf W0 D0 E1 => ?_)
  simp only [c61, r61, idx, Nat.zero_add, Nat.reduceAdd]
  obtain ⟨z1, z2, z3⟩ := bookL (a5 0 0 0 0 0) 0 (.nils 7) rfl rfl rfl
  refine AW.seq (AW.reg cd61_0 fun K hK => ?_)
  simp only [g61_0, bR, Nat.reduceEqDiff, reduceIte, Int.reduceBNe, Int.reduceBEq]
  simp only [e_isVal, e_a5, bR, Nat.reduceEqDiff, reduceIte, Int.reduceBNe, Int.reduceBEq]
  refine .done (hK _ ?_); clear hK K; simp only [thenQ, blockQ]
  refine AW.seq ?_
  refine AW.seq (AW.reg cd61_1 fun K hK => ?_)
  simp only [g61_1, bR, Nat.reduceEqDiff, reduceIte, Int.reduceBNe, Int.reduceBEq]
  try simp only [typR, useR, okR, e_fin, bR, Nat.reduceEqDiff, reduceIte, Int.reduceBNe, Int.reduceBEq]
  refine .flat _ (F90 m o) rfl ?_
  try simp only [typR, useR, okR, e_fin, bR, Nat.reduceEqDiff, reduceIte, Int.reduceBNe, Int.reduceBEq]
  refine .done (hK _ ?_); clear hK K; simp only [thenQ, blockQ]
  by_cases h0 : askedOf m o = 0
  case neg =>
    have hne : (askedOf m o != 0) = true := by simpa using h0
    refine AW.seq (AW.reg cd61_2 fun K hK => ?_)
    simp only [g61_2, bR, Nat.reduceEqDiff, reduceIte, Int.reduceBNe, Int.reduceBEq]
    simp only [hne, bR, Nat.reduceEqDiff, reduceIte, Int.reduceBNe, Int.reduceBEq]
    refine .done (hK _ ?_); clear hK K; simp only [thenQ, blockQ]
    refine AW.ite ?_
    simp only [condQ, bR, Nat.reduceEqDiff, reduceIte, Int.reduceBNe, Int.reduceBEq]
    refine ⟨fun h => ?_, fun h => ?_⟩
    · refine AW.seq (AW.reg cd61_3 fun K hK => ?_)
      simp only [g61_3, bR, Nat.reduceEqDiff, reduceIte, Int.reduceBNe, Int.reduceBEq]
      simp only [setParts, e_a5, bR, Nat.reduceEqDiff, reduceIte, Int.reduceBNe, Int.reduceBEq]
      rw [stR3_ok z1 z2 rfl]
      simp only [setAt_nil, bR, Nat.reduceEqDiff, reduceIte, Int.reduceBNe, Int.reduceBEq]
      refine .done (hK _ ?_); clear hK K; simp only [thenQ, blockQ]
      have hr : takeR m o = (noM, askedOf m o) := by simp [takeR, h0]
      refine AW.ret ?_
      simp only [blockQ, thenQ, bR, Nat.reduceEqDiff, reduceIte, Int.reduceBNe, Int.reduceBEq]
      simp only [z2, typR, e_fin, bR, Nat.reduceEqDiff, reduceIte, Int.reduceBNe, Int.reduceBEq]
      rw [hr]; rfl
    · cases h
  obtain ⟨hm, ho⟩ := asked0 h0
  have hlen := okM_len hm
  rw [h0]
  refine AW.seq (AW.reg cd61_2 fun K hK => ?_)
  simp only [g61_2, bR, Nat.reduceEqDiff, reduceIte, Int.reduceBNe, Int.reduceBEq]
  refine .done (hK _ ?_); clear hK K; simp only [thenQ, blockQ]
  refine AW.ite ?_
  simp only [condQ, bR, Nat.reduceEqDiff, reduceIte, Int.reduceBNe, Int.reduceBEq]
  refine ⟨fun h => ?_, fun h => ?_⟩
  · cases h
  refine AW.skip ?_; simp only [thenQ, blockQ, reduceIte, Nat.reduceEqDiff]
  refine AW.seq (AW.reg cd61_4 fun K hK => ?_)
  simp only [g61_4, bR, Nat.reduceEqDiff, reduceIte, Int.reduceBNe, Int.reduceBEq]
  try simp only [typR, useR, okR, e_fin, bR, Nat.reduceEqDiff, reduceIte, Int.reduceBNe, Int.reduceBEq]
  refine .lead _ (F91 m o hm ho) ?_
  try simp only [typR, useR, okR, e_fin, bR, Nat.reduceEqDiff, reduceIte, Int.reduceBNe, Int.reduceBEq]
  refine .done (hK _ ?_); clear hK K; simp only [thenQ, blockQ]
  generalize hf : foundAt m.given o = bf
  refine AW.seq (AW.seq ?_)
  cases bf
  case false =>
    refine AW.reg cd61_5 fun K hK => ?_
    simp only [g61_5, bR, Nat.reduceEqDiff, reduceIte, Int.reduceBNe, Int.reduceBEq]
    refine .done (hK _ ?_); clear hK K; simp only [thenQ, blockQ]
    refine AW.ite ?_
    simp only [condQ, bR, Nat.reduceEqDiff, reduceIte, Int.reduceBNe, Int.reduceBEq]
    refine ⟨fun h => ?_, fun h => ?_⟩
    · refine AW.seq (AW.reg cd61_6 fun K hK => ?_)
      simp only [g61_6, bR, Nat.reduceEqDiff, reduceIte, Int.reduceBNe, Int.reduceBEq]
      simp only [setParts, e_a5, bR, Nat.reduceEqDiff, reduceIte, Int.reduceBNe, Int.reduceBEq]
      rw [stR3_ok z1 z2 rfl]
      simp only [setAt_nil, bR, Nat.reduceEqDiff, reduceIte, Int.reduceBNe, Int.reduceBEq]
      refine .done (hK _ ?_); clear hK K; simp only [thenQ, blockQ]
      have hr : takeR m o = (noM, 3) := by simp [takeR, h0, hf]
      refine AW.ret ?_
      simp only [blockQ, thenQ, bR, Nat.reduceEqDiff, reduceIte, Int.reduceBNe, Int.reduceBEq]
      simp only [z2, typR, e_fin, bR, Nat.reduceEqDiff, reduceIte, Int.reduceBNe, Int.reduceBEq]
      rw [hr]; rfl
    · cases h
  refine AW.reg cd61_5 fun K hK => ?_
  simp only [g61_5, bR, Nat.reduceEqDiff, reduceIte, Int.reduceBNe, Int.reduceBEq]
  refine .done (hK _ ?_); clear hK K; simp only [thenQ, blockQ]
  refine AW.ite ?_
  simp only [condQ, bR, Nat.reduceEqDiff, reduceIte, Int.reduceBNe, Int.reduceBEq]
  refine ⟨fun h => ?_, fun h => ?_⟩
  · cases h
  refine AW.skip ?_; simp only [thenQ, blockQ, reduceIte, Nat.reduceEqDiff]
  have hp := ((foundAt_index (o := o) hm).1 hf).2
  have hr : takeR m o = (⟨m.wear, m.fls, del m.given (posOf m.given o)⟩, 0) := by simp [takeR, h0, hf]
  generalize posOf m.given o = p at hp hr ⊢
  have hne : m.given ≠ [] := fun e => by rw [e] at hp; simp at hp
  have hdl := del_len hp
  refine AW.seq (AW.reg cd61_7 fun K hK => ?_)
  simp only [g61_7, bR, Nat.reduceEqDiff, reduceIte, Int.reduceBNe, Int.reduceBEq]
  simp only [typR, useR, okR, e_fin, bR, Nat.reduceEqDiff, reduceIte, Int.reduceBNe, Int.reduceBEq]
  refine .obj false [(7, 27)] [] [enc m.given] (clonePost m.given) rfl (F85 m.given (by omega)) Gvn.nil ⟨.inl ⟨(e_ren _ _).symm, e_only _ _, e_isVal _⟩, trivial⟩ ?_ ?_
  · rintro x os' (⟨_, h | h, rfl⟩ | ⟨_, k, rfl, rfl⟩)
    · subst h; exact Bck.nil (fun _ => rfl) (fun h => by cases h)
    · subst h; exact Bck.nil (fun _ => rfl) (fun h => by cases h)
    · exact Bck.new1 (fun p => map_only p _) (fun h => by cases h) rfl (fun h => by cases h) rfl (by decide)
  · rintro x os' (⟨hn, _, _⟩ | ⟨hn, k, rfl, rfl⟩)
    · exact absurd hn hne
    simp only [rowG, renR, rens_map_enc, List.cons_append, List.nil_append, bR, Nat.reduceEqDiff, reduceIte, Int.reduceBNe, Int.reduceBEq]
    rw [wrap_id _ (by omega) (by omega)]
    have hp1 : (p : Int) + 1 = ((p + 1 : Nat) : Int) := by omega
    simp only [hp1]
    refine .obj false [(1000000, 27)] (rowG 1000000 m.given k) [.view 1000000 [] 7 0 m.given.length, enc (p : Int), enc ((p + 1 : Nat) : Int)] (delAtPost m.given p) rfl (F104 m.given p k hp (by omega)) ⟨?_, ?_⟩ ⟨.inl ⟨?_, ?_, rfl⟩, .inl ⟨rfl, rfl, rfl⟩, .inl ⟨rfl, rfl, rfl⟩, trivial⟩ ?_ ?_
    · intro n x h
      simp only [rowG, lookO] at h
      split at h
      · rename_i hn'
        subst hn'
        simp only [Option.some.injEq] at h
        subst h
        exact ⟨by simp only [renR, rens_map_enc, bR, Nat.reduceEqDiff, reduceIte, Int.reduceBNe, Int.reduceBEq], map_only _ _, rfl⟩
      · cases h
    · intro a b ha hb _
      rw [isIn_one.1 ha, isIn_one.1 hb]
    · simp only [renR, bR, Nat.reduceEqDiff, reduceIte, Int.reduceBNe, Int.reduceBEq]
    · exact isIn_one.2 rfl
    · rintro x os' ⟨q, rfl, rfl⟩
      exact Bck.oneR (fun p => map_only p _) (fun h => by cases h) rfl (fun h => by cases h)
    · rintro x os' ⟨q, rfl, rfl⟩
      rw [← hdl]
      generalize del m.given p = L at hr ⊢
      simp only [rowG, renR, rens_map_enc, List.cons_append, List.nil_append, typR, bR, Nat.reduceEqDiff, reduceIte, Int.reduceBNe, Int.reduceBEq]
      rw [stR3_ok (s := none) (v := .view 27 [] 7 0 L.length) (old := enc m.given) rfl rfl (e_sh m.given).symm]
      have hset : (enc m : AV).setAt [2] (.view 27 [] 7 0 L.length) = .agg [enc m.wear, .int .i64 m.fls, .view 27 [] 7 0 L.length] := rfl
      rw [hset]
      obtain ⟨s1, s2, s3⟩ := bookL m.wear m.fls (.view 27 [] 7 0 L.length) rfl rfl rfl
      simp only [bR, Nat.reduceEqDiff, reduceIte, Int.reduceBNe, Int.reduceBEq]
      refine .done (hK _ ?_); clear hK K; simp only [thenQ, blockQ]
      refine AW.seq (AW.reg cd61_8 fun K hK => ?_)
      simp only [g61_8, bR, Nat.reduceEqDiff, reduceIte, Int.reduceBNe, Int.reduceBEq]
      simp only [s2, bR, Nat.reduceEqDiff, reduceIte, Int.reduceBNe, Int.reduceBEq]
      rw [stR3_ok s1 s2 (s3.trans z3.symm)]
      simp only [setAt_nil, bR, Nat.reduceEqDiff, reduceIte, Int.reduceBNe, Int.reduceBEq]
      refine .done (hK _ ?_); clear hK K; simp only [thenQ, blockQ]
      refine AW.ret ?_
      simp only [blockQ, thenQ, bR, Nat.reduceEqDiff, reduceIte, Int.reduceBNe, Int.reduceBEq]
      simp only [s2, finV_take (α := Given) (sz := 7) rfl, typR, e_fin, bR, Nat.reduceEqDiff, reduceIte, Int.reduceBNe, Int.reduceBEq]
      rw [e_M, take_row, hr]
end Go.Proofs.Ytkjkbpgdpnapfaa

/-
  FUNCTIONS OF THE REFERENCE BY CONTRACT: with, Next.
-/
namespace Go.Proofs.Ytkjkbpgdpnapfaa
open Go Go.Abs
open Go.Abs.Enc (enc)
end Go.Proofs.Ytkjkbpgdpnapfaa

/-
  FUNCTIONS OF THE REFERENCE BY CONTRACT: Give, Add, Take.
-/
namespace Go.Proofs.Ytkjkbpgdpnapfaa
open Go Go.Abs
open Go.Abs.Enc (enc)
end Go.Proofs.Ytkjkbpgdpnapfaa

/-
  THE LAW MarkGives BY CONTRACT.
-/
namespace Go.Proofs.Ytkjkbpgdpnapfaa
open Go Go.Abs
open Go.Abs.Enc (enc)
theorem sameM_refl (m : Marks) : sameM m m = true := by simp [sameM, sameG]
end Go.Proofs.Ytkjkbpgdpnapfaa

/-
  FUNCTIONS BY CONTRACT: Of, of mark.
-/
namespace Go.Proofs.Ytkjkbpgdpnapfaa
open Go Go.Abs
open Go.Abs.Enc (enc)
end Go.Proofs.Ytkjkbpgdpnapfaa

/-
  READ ARIGHT (in plain data): readings of a worn mark with false places, with more signs and with fewer.
-/
namespace Go.Proofs.Ytkjkbpgdpnapfaa
open Go Go.Abs
open Go.Abs.Enc (enc)
theorem okM_fls {m : Marks} (h : okM m = true) : okWear m.wear = true ∧ 0 ≤ m.fls ∧ m.fls ≤ 2 := by
  simp only [okM, Bool.and_eq_true, inR, decide_eq_true_eq] at h
  exact ⟨h.1, h.2.1.1, h.2.1.2⟩
end Go.Proofs.Ytkjkbpgdpnapfaa

/-
  FUNCTIONS OF THE REFERENCE BY CONTRACT: settles.
-/
namespace Go.Proofs.Ytkjkbpgdpnapfaa
open Go Go.Abs
open Go.Abs.Enc (enc)
theorem okM_at {m : Marks} (h : okM m = true) {i : Nat} (hi : i < m.given.length) : okAt m i = true := by
  simp only [okM, Bool.and_eq_true, decide_eq_true_eq, List.all_eq_true, List.mem_range] at h
  exact h.2.2.2 i hi
theorem okM_rise {m : Marks} (h : okM m = true) : ∀ j i, i < j → j < m.given.length → (gv m i).owner < (gv m j).owner
  | 0, _, hi, _ => absurd hi (by omega)
  | j + 1, i, hi, hj => by
    have h1 := (okAt_iff.1 (okM_at h hj)).2.2.1
    have h2 : (gv m j).owner < (gv m (j + 1)).owner := by
      rcases h1 with h1 | h1
      · omega
      · exact h1
    by_cases e : i = j
    · subst e; exact h2
    · have := okM_rise h j i (by omega) (by omega); omega
theorem indexOf_owner {m : Marks} (h : okM m = true) {g : Given} (hg : g ∈ m.given) : ∃ i, i < m.given.length ∧ indexOf m.given g.owner = (i : Int) ∧ gv m i = g := by
  obtain ⟨k, hk, rfl⟩ := List.getElem_of_mem hg
  refine ⟨k, hk, ?_, (gv_eq hk).symm⟩
  have : m.given.findIdx? (fun x => x.owner == m.given[k].owner) = some k := findIdx?_some_at hk (fun x hx => by
    obtain ⟨i, hi, rfl⟩ := List.getElem_of_mem hx
    rw [List.length_take] at hi
    rw [List.getElem_take, gv_eq (show i < m.given.length by omega), gv_eq hk]
    have := okM_rise h k i (by omega) hk
    simp; omega) (by simp)
  simp only [indexOf, this]
end Go.Proofs.Ytkjkbpgdpnapfaa

/-
  THE NEXT MARK (in plain data).
-/
namespace Go.Proofs.Ytkjkbpgdpnapfaa
open Go Go.Abs
open Go.Abs.Enc (enc)
theorem nextK_spec {m : Marks} : (∀ k, nextK m = some k → k < 15625 ∧ blocked m (dgs k) = false ∧ ∀ j, j < k → blocked m (dgs j) = true) ∧ (nextK m = none → ∀ k, k < 15625 → blocked m (dgs k) = true) := by
  constructor
  · intro k h
    rw [nextK, List.find?_range_eq_some] at h
    obtain ⟨h1, h2, h3⟩ := h
    refine ⟨by simpa using h2, by simpa using h1, fun j hj => by simpa using h3 j hj⟩
  · intro h k hk
    rw [nextK, List.find?_eq_none] at h
    simpa using h k (by simpa using hk)
theorem made_last (l : List Int) {o : Int} (h : 48 < o) : posOf (made l).given o = (made l).given.length := by
  refine List.findIdx_eq_length_of_false fun g hg => ?_
  have := made_owner l g hg
  simp; omega
theorem last_found {l : List Given} {o : Int} (h : posOf l o = l.length) : foundAt l o = false := by simp [foundAt, h]
theorem digits_mod (n d : Int) (hd : 0 < d) : digits (n % d) 6 = dgs (n % d).toNat := by
  have h0 : 0 ≤ n % d := Int.emod_nonneg _ (by omega)
  have e : n % d = (((n % d).toNat : Nat) : Int) := by omega
  conv => lhs; rw [e]
  exact digits_dgs _
theorem asked_made {m : Marks} (h : okM m = true) {o : Int} (h1 : 1 ≤ o) (h2 : o ≤ 99) : askedOf m o = 0 := by simp [askedOf, h, inR, h1, h2]
/-- A mark that stands apart from all, laid at the book's end. -/
theorem okM_end {m : Marks} (h : okM m = true) (hl : m.given.length < 40) {g : Given} (ho : 1 ≤ g.owner ∧ g.owner ≤ 99) (hk : okMark g.mark = true) (hb : blocked m g.mark = false) (hlast : ∀ x ∈ m.given, x.owner < g.owner) : okM ⟨m.wear, m.fls, m.given ++ [g]⟩ = true := by
  have hat := fun i (hi : i < m.given.length) => okM_at h hi
  obtain ⟨hw, hf0, hf2⟩ := okM_fls h
  have e1 : inR 0 2 m.fls = true := by simp [inR, hf0, hf2]
  have e2 : decide ((m.given ++ [g]).length ≤ 40) = true := by simp; omega
  have e3 : (List.range (m.given ++ [g]).length).all (okAt ⟨m.wear, m.fls, m.given ++ [g]⟩) = true := by
    simp only [List.all_eq_true, List.mem_range, List.length_append, List.length_singleton]
    intro i hi
    have eta : (⟨m.wear, m.fls, m.given⟩ : Marks) = m := rfl
    by_cases e : i = m.given.length
    · subst e
      rw [okAt_iff, gv_last]
      refine ⟨ho, hk, ?_, fun j hj => ?_⟩
      · by_cases e0 : m.given.length = 0
        · exact .inl e0
        · right
          rw [gv_left (by omega), eta]
          exact hlast _ (by rw [← gv_eq (show m.given.length - 1 < m.given.length by omega)]; exact List.getElem_mem _)
      · rw [gv_left hj, eta]
        cases hh : tooNear m (gv m j).mark g.mark with
        | false => exact hh
        | true => rw [blocked_at hj hh] at hb; cases hb
    · have hi' : i < m.given.length := by omega
      have := hat i hi'
      rw [okAt_iff] at this ⊢
      rw [gv_left hi', eta]
      refine ⟨this.1, this.2.1, ?_, fun j hj => ?_⟩
      · rcases this.2.2.1 with h | h
        · exact .inl h
        · right; rw [gv_left (by omega), eta]; exact h
      · rw [gv_left (by omega), eta]; exact this.2.2.2 j hj
  simp only [okM, hw, e1, e2, e3, Bool.and_self]
theorem mark_there {m : Marks} (h : okM m = true) {g : Given} (hg : g ∈ m.given) : markOf m g.owner = (g.mark, 0) := by
  obtain ⟨i, hi, h1, h2⟩ := indexOf_owner h hg
  obtain ⟨j, hj, rfl⟩ := List.getElem_of_mem hg
  have ho := (okAt_iff.1 (okM_at h hj)).1
  rw [← gv_eq hj] at ho
  have h0 := asked_made h ho.1 ho.2
  have hn : ¬ ((i : Int) < 0) := by omega
  simp [markOf, h0, h1, hn, h2]
theorem del_end (l : List Given) (g : Given) : del (l ++ [g]) l.length = l := by
  simp [del]
theorem take_mark {m : Marks} (o : Int) : (takeR m o).2 = (markOf m o).2 := by
  by_cases h0 : askedOf m o = 0
  · obtain ⟨hm, _⟩ := asked0 h0
    have hix := foundAt_index (o := o) hm
    cases hf : foundAt m.given o with
    | false =>
      have := hix.2 hf
      simp [takeR, markOf, h0, hf, this]
    | true =>
      obtain ⟨h1, _⟩ := hix.1 hf
      have hn : ¬ (((posOf m.given o : Nat) : Int) < 0) := by omega
      simp [takeR, markOf, h0, hf, h1, hn]
  · simp [takeR, markOf, h0]
/-- The number of a mark, place by place. -/
def numTo (k : Nat) : Nat → Nat
  | 0 => 0
  | 1 => k / 5 / 5 / 5 / 5 / 5
  | 2 => k / 5 / 5 / 5 / 5
  | 3 => k / 5 / 5 / 5
  | 4 => k / 5 / 5
  | 5 => k / 5
  | _ => k
theorem numTo_succ {k : Nat} (hk : k < 15625) {i : Nat} (hi : i < 6) : ((numTo k i : Nat) : Int) * 5 + (dgs k).g i = ((numTo k (i + 1) : Nat) : Int) := by
  have hd : (dgs k).g i = dg k i := by
    match i, hi with
    | 0, _ | 1, _ | 2, _ | 3, _ | 4, _ | 5, _ => rfl
    | n + 6, h => exact absurd h (by omega)
  rw [hd]
  match i, hi with
  | 0, _ => simp only [numTo, dg]; omega
  | 1, _ => simp only [numTo, dg]; omega
  | 2, _ => simp only [numTo, dg]; omega
  | 3, _ => simp only [numTo, dg]; omega
  | 4, _ => simp only [numTo, dg]; omega
  | 5, _ => simp only [numTo, dg]; omega
  | n + 6, h => exact absurd h (by omega)
theorem numTo_le (k i : Nat) : numTo k i ≤ k := by
  unfold numTo
  split <;> omega
theorem dgs_in (k : Nat) {i : Nat} (hi : i < 6) : 0 ≤ (dgs k).g i ∧ (dgs k).g i < 5 := okMark_at (okMark_dgs k) hi
end Go.Proofs.Ytkjkbpgdpnapfaa

/-
  THE LAW MarkNext BY CONTRACT.
-/
namespace Go.Proofs.Ytkjkbpgdpnapfaa
open Go Go.Abs
open Go.Abs.Enc (enc)
theorem F11 (l : List Int) (n o : Int) (hl : l.length ≤ 4611686018427387904) : Ctr Try.prog 11 [enc l, enc n, enc o] (enc true) := by
  refine Ctr.mk' Try.func11 ca11 cc11 cr11 (Nat.le_of_ble_eq_true rfl) (fun hwf W0 D0 E1 => ?_)
  simp only [c11, r11, idx, Nat.zero_add, Nat.reduceAdd]
  obtain ⟨m, hm⟩ : ∃ m, m = made l := ⟨_, rfl⟩
  have hok : okM m = true := by rw [hm]; exact okM_made l
  have hlen : m.given.length ≤ 9 := by rw [hm]; exact made_len l
  have h40 : ¬ m.given.length = 40 := by omega
  have hpos : posOf m.given 99 = m.given.length := by rw [hm]; exact made_last l (by decide)
  have hfnd := last_found hpos
  have hown : ∀ x ∈ m.given, x.owner < 99 := fun x hx => by rw [hm] at hx; have := made_owner l x hx; omega
  have ha99 : askedOf m 99 = 0 := asked_made hok (by decide) (by decide)
  refine AW.seq (AW.reg cd11_0 fun K hK => ?_)
  simp only [g11_0, bR, Nat.reduceEqDiff, reduceIte, Int.reduceBNe, Int.reduceBEq]
  refine .done (hK _ ?_); clear hK K; simp only [thenQ, blockQ]
  refine AW.seq (AW.reg cd11_1 fun K hK => ?_)
  simp only [g11_1, bR, Nat.reduceEqDiff, reduceIte, Int.reduceBNe, Int.reduceBEq]
  try simp only [typR, useR, okR, e_fin, bR, Nat.reduceEqDiff, reduceIte, Int.reduceBNe, Int.reduceBEq]
  refine .lead _ (F22 l hl) ?_
  rw [← hm]
  simp only [typR, useR, okR, e_fin, e_a5, bR, Nat.reduceEqDiff, reduceIte, Int.reduceBNe, Int.reduceBEq]
  rw [stR3_ok (e_isVal _) (by rw [e_okS]; rfl) ((e_sh _).trans rfl)]
  simp only [setAt_nil, bR, Nat.reduceEqDiff, reduceIte, Int.reduceBNe, Int.reduceBEq]
  refine .done (hK _ ?_); clear hK K; simp only [thenQ, blockQ]
  obtain ⟨o2, ho2⟩ : ∃ o2, o2 = 1 + o % 99 := ⟨_, rfl⟩
  have ho2r : 1 ≤ o2 ∧ o2 ≤ 99 := by
    have h1 := Int.emod_nonneg o (show (99 : Int) ≠ 0 by decide)
    have h2 := Int.emod_lt_of_pos o (show (0 : Int) < 99 by decide)
    omega
  refine AW.seq (AW.reg cd11_2 fun K hK => ?_)
  simp only [g11_2, bR, Nat.reduceEqDiff, reduceIte, Int.reduceBNe, Int.reduceBEq]
  try simp only [typR, useR, okR, e_fin, bR, Nat.reduceEqDiff, reduceIte, Int.reduceBNe, Int.reduceBEq]
  refine .flat _ (F23 o 99 (by decide) (by decide)) rfl ?_
  try simp only [typR, useR, okR, e_fin, bR, Nat.reduceEqDiff, reduceIte, Int.reduceBNe, Int.reduceBEq]
  rw [← ho2, wrap_id _ (by omega) (by omega)]
  refine .done (hK _ ?_); clear hK K; simp only [thenQ, blockQ]
  refine AW.seq (AW.reg cd11_3 fun K hK => ?_)
  simp only [g11_3, bR, Nat.reduceEqDiff, reduceIte, Int.reduceBNe, Int.reduceBEq]
  try simp only [typR, useR, okR, e_fin, bR, Nat.reduceEqDiff, reduceIte, Int.reduceBNe, Int.reduceBEq]
  refine .lead _ (F55 m) ?_
  simp only [typR, e_a6, stR3_6, bR, Nat.reduceEqDiff, reduceIte, Int.reduceBNe, Int.reduceBEq]
  refine .done (hK _ ?_); clear hK K; simp only [thenQ, blockQ]
  obtain ⟨hsome, hnone⟩ := nextK_spec (m := m)
  refine AW.seq (AW.seq ?_)
  cases hk : nextK m with
  | none =>
    have hnx : nextOf m = (zero6, 16) := by simp [nextOf, hok, h40, hk]
    rw [hnx]
    refine AW.reg cd11_4 fun K hK => ?_
    simp only [g11_4, bR, Nat.reduceEqDiff, reduceIte, Int.reduceBNe, Int.reduceBEq]
    refine .done (hK _ ?_); clear hK K; simp only [thenQ, blockQ]
    refine AW.ite ?_
    simp only [condQ, bR, Nat.reduceEqDiff, reduceIte, Int.reduceBNe, Int.reduceBEq]
    refine ⟨fun h => ?_, fun h => ?_⟩
    · have hblk : blocked m (digits (n % 15625) 6) = true := by
        rw [digits_mod n 15625 (by decide)]
        have h1 := Int.emod_nonneg n (show (15625 : Int) ≠ 0 by decide)
        have h2 := Int.emod_lt_of_pos n (show (0 : Int) < 15625 by decide)
        exact hnone hk _ (by omega)
      have hadd : addR m ⟨99, digits (n % 15625) 6⟩ = (noM, 19) := by simp [addR, ha99, hfnd, okMark_digits, h40, hblk]
      refine AW.seq (AW.reg cd11_5 fun K hK => ?_)
      simp only [g11_5, bR, Nat.reduceEqDiff, reduceIte, Int.reduceBNe, Int.reduceBEq]
      try simp only [typR, useR, okR, e_fin, bR, Nat.reduceEqDiff, reduceIte, Int.reduceBNe, Int.reduceBEq]
      refine .flat _ (F23 n 15625 (by decide) (by decide)) rfl ?_
      try simp only [typR, useR, okR, e_fin, bR, Nat.reduceEqDiff, reduceIte, Int.reduceBNe, Int.reduceBEq]
      refine .lead _ (F35 (n % 15625)) ?_
      simp only [typR, useR, okR, e_fin, e_a5, e_a6, bldG, e_G, bR, Nat.reduceEqDiff, reduceIte, Int.reduceBNe, Int.reduceBEq]
      refine .lead _ (F59 m ⟨99, digits (n % 15625) 6⟩) ?_
      simp only [hadd, typR, bR, Nat.reduceEqDiff, reduceIte, Int.reduceBNe, Int.reduceBEq]
      rw [stR3_ok (e_isVal _) (by rw [e_okS]; rfl) ((e_sh _).trans rfl)]
      simp only [setAt_nil, bR, Nat.reduceEqDiff, reduceIte, Int.reduceBNe, Int.reduceBEq]
      refine .done (hK _ ?_); clear hK K; simp only [thenQ, blockQ]
      refine AW.seq (AW.reg cd11_6 fun K hK => ?_)
      simp only [g11_6, bR, Nat.reduceEqDiff, reduceIte, Int.reduceBNe, Int.reduceBEq]
      try simp only [typR, useR, okR, e_fin, bR, Nat.reduceEqDiff, reduceIte, Int.reduceBNe, Int.reduceBEq]
      refine .flat _ F21 rfl ?_
      try simp only [typR, useR, okR, e_fin, bR, Nat.reduceEqDiff, reduceIte, Int.reduceBNe, Int.reduceBEq]
      refine .done (hK _ ?_); clear hK K; simp only [thenQ, blockQ]
      refine AW.ret ?_
      simp only [blockQ, thenQ, bR, Nat.reduceEqDiff, reduceIte, Int.reduceBNe, Int.reduceBEq]
    · cases h
  | some k =>
    obtain ⟨hk1, hk2, hk3⟩ := hsome k hk
    have hnx : nextOf m = (dgs k, 0) := by simp [nextOf, hok, h40, hk]
    rw [hnx]
    refine AW.reg cd11_4 fun K hK => ?_
    simp only [g11_4, bR, Nat.reduceEqDiff, reduceIte, Int.reduceBNe, Int.reduceBEq]
    refine .done (hK _ ?_); clear hK K; simp only [thenQ, blockQ]
    refine AW.ite ?_
    simp only [condQ, bR, Nat.reduceEqDiff, reduceIte, Int.reduceBNe, Int.reduceBEq]
    refine ⟨fun h => ?_, fun h => ?_⟩
    · cases h
    refine AW.skip ?_; simp only [thenQ, blockQ, reduceIte, Nat.reduceEqDiff]
    refine AW.seq (AW.seq ?_)
    refine AW.reg cd11_7 fun K hK => ?_
    simp only [g11_7, bR, Nat.reduceEqDiff, reduceIte, Int.reduceBNe, Int.reduceBEq]
    refine .done (hK _ ?_); clear hK K; simp only [thenQ, blockQ]
    refine AW.ite ?_
    simp only [condQ, bR, Nat.reduceEqDiff, reduceIte, Int.reduceBNe, Int.reduceBEq]
    refine ⟨fun h => ?_, fun h => ?_⟩
    · cases h
    refine AW.skip ?_; simp only [thenQ, blockQ, reduceIte, Nat.reduceEqDiff]
    refine AW.seq (AW.reg cd11_9 fun K hK => ?_)
    simp only [g11_9, bR, Nat.reduceEqDiff, reduceIte, Int.reduceBNe, Int.reduceBEq]
    refine .done (hK _ ?_); clear hK K; simp only [thenQ, blockQ]
    refine AW.seq (AW.seq ?_)
    refine AW.reg cd11_10 fun K hK => ?_
    simp only [g11_10, bR, Nat.reduceEqDiff, reduceIte, Int.reduceBNe, Int.reduceBEq]
    refine .done (hK _ ?_); clear hK K; simp only [thenQ, blockQ]
    refine AW.block (AW.loop (fun i : Nat => mkA [(1, .int .i64 n), (2, .int .i64 o2), (7, .ptr 7 []), (8, .ptr 8 []), (12, .int .i64 (numTo k i : Nat)), (13, .int .i64 i)] [(7, .box (enc m)), (8, .box (enc (dgs k)))]) (fun i => i ≤ 6) (fun i => 6 - i) 0 (by omega) ?_ (fun i hi => ?_))
    · simp only [numTo]
      refine Sub.of_lists ?_ ?_ ?_ ?_ <;> simp [subT, subO, onlyT, onlyO, isIn, look_cons, lookO_cons, lookO_nil, AV.only, AV.onlys, AO.only, onlys_map, onlys_append, e_only, e_int, e_bool]
    refine AW.seq (AW.seq ?_)
    refine AW.reg cd11_11 fun K hK => ?_
    simp only [g11_11, bR, Nat.reduceEqDiff, reduceIte, Int.reduceBNe, Int.reduceBEq]
    refine .done (hK _ ?_); clear hK K; simp only [thenQ, blockQ]
    refine AW.ite ?_
    simp only [condQ, bR, Nat.reduceEqDiff, reduceIte, Int.reduceBNe, Int.reduceBEq]
    refine ⟨fun h => ?_, fun h => ?_⟩
    · have hi6 : i < 6 := by simp at h; omega
      have hd := dgs_in k hi6
      have hle := numTo_le k i
      have hs := numTo_succ hk1 hi6
      have hle2 := numTo_le k (i + 1)
      refine AW.skip ?_; simp only [thenQ, blockQ, reduceIte, Nat.reduceEqDiff]
      refine AW.seq (AW.block ?_)
      refine AW.reg cd11_12 fun K hK => ?_
      simp only [g11_12, bR, Nat.reduceEqDiff, reduceIte, Int.reduceBNe, Int.reduceBEq]
      simp only [typR, useR, okR, inB_nat 1 (dgs k) hi6 rfl, atL_g (dgs k) hi6, e_fin, bR, Nat.reduceEqDiff, reduceIte, Int.reduceBNe, Int.reduceBEq]
      rw [wrap_id (((numTo k i : Nat) : Int) * 5) (by omega) (by omega), hs, wrap_id _ (by omega) (by omega)]
      refine .done (hK _ ?_); clear hK K; simp only [thenQ, blockQ]
      refine AW.reg cd11_13 fun K hK => ?_
      simp only [g11_13, bR, Nat.reduceEqDiff, reduceIte, Int.reduceBNe, Int.reduceBEq]
      refine .done (hK _ ?_); clear hK K; simp only [thenQ, blockQ]
      refine ⟨i + 1, by omega, by omega, ?_⟩
      rw [wrap_id _ (by omega) (by omega)]
      refine Sub.of_lists ?_ ?_ ?_ ?_ <;> simp [subT, subO, onlyT, onlyO, isIn, look_cons, lookO_cons, lookO_nil, AV.only, AV.onlys, AO.only, onlys_map, onlys_append, e_only, e_int, e_bool]
    have hi6 : i = 6 := by simp at h; omega
    subst hi6
    have hnum : numTo k 6 = k := rfl
    rw [hnum]
    refine AW.exit ?_; simp only [thenQ, blockQ, reduceIte, Nat.reduceEqDiff]
    refine AW.seq (AW.seq ?_)
    refine AW.reg cd11_14 fun K hK => ?_
    simp only [g11_14, bR, Nat.reduceEqDiff, reduceIte, Int.reduceBNe, Int.reduceBEq]
    have hd1 : decide ((k : Int) < 0) = false := decide_eq_false (by omega)
    have hd2 : decide ((15625 : Int) ≤ k) = false := decide_eq_false (by omega)
    simp only [hd1, hd2, typR, useR, okR, bR, Nat.reduceEqDiff, reduceIte, Int.reduceBNe, Int.reduceBEq]
    refine .done (hK _ ?_); clear hK K; simp only [thenQ, blockQ]
    refine AW.ite ?_
    simp only [condQ, bR, Nat.reduceEqDiff, reduceIte, Int.reduceBNe, Int.reduceBEq]
    refine ⟨fun h => ?_, fun h => ?_⟩
    · first | cases h | simp at h
    refine AW.skip ?_; simp only [thenQ, blockQ, reduceIte, Nat.reduceEqDiff]
    refine AW.seq ?_
    refine AW.via (mkA [(1, .int .i64 n), (2, .int .i64 o2), (7, .ptr 7 []), (8, .ptr 8 [])] [(7, .box (enc m)), (8, .box (enc (dgs k)))]) ?_ fun B hB => ?_
    · refine AW.seq ?_
      refine AW.reg cd11_16 fun K hK => ?_
      simp only [g11_16, bR, Nat.reduceEqDiff, reduceIte, Int.reduceBNe, Int.reduceBEq]
      refine .done (hK _ ?_); clear hK K; simp only [thenQ, blockQ]
      refine AW.ite ?_
      simp only [condQ, bR, Nat.reduceEqDiff, reduceIte, Int.reduceBNe, Int.reduceBEq]
      refine ⟨fun h => ?_, fun h => ?_⟩
      · have hkp : 0 < k := by simpa using h
        have hblk : blocked m (digits (n % (k : Int)) 6) = true := by
          rw [digits_mod n k (by omega)]
          have h1 := Int.emod_nonneg n (show (k : Int) ≠ 0 by omega)
          have h2 := Int.emod_lt_of_pos n (show (0 : Int) < k by omega)
          exact hk3 _ (by omega)
        have hmk : okMark (digits (n % (k : Int)) 6) = true := by rw [digits_mod n k (by omega)]; exact okMark_dgs _
        have hadd : addR m ⟨99, digits (n % (k : Int)) 6⟩ = (noM, 19) := by simp [addR, ha99, hfnd, hmk, h40, hblk]
        refine AW.seq (AW.reg cd11_17 fun K hK => ?_)
        simp only [g11_17, bR, Nat.reduceEqDiff, reduceIte, Int.reduceBNe, Int.reduceBEq]
        try simp only [typR, useR, okR, e_fin, bR, Nat.reduceEqDiff, reduceIte, Int.reduceBNe, Int.reduceBEq]
        refine .flat _ (F23 n k (by omega) (by omega)) rfl ?_
        try simp only [typR, useR, okR, e_fin, bR, Nat.reduceEqDiff, reduceIte, Int.reduceBNe, Int.reduceBEq]
        refine .lead _ (F35 (n % (k : Int))) ?_
        simp only [typR, useR, okR, e_fin, e_a5, e_a6, bldG, e_G, bR, Nat.reduceEqDiff, reduceIte, Int.reduceBNe, Int.reduceBEq]
        refine .lead _ (F59 m ⟨99, digits (n % (k : Int)) 6⟩) ?_
        simp only [hadd, typR, bR, Nat.reduceEqDiff, reduceIte, Int.reduceBNe, Int.reduceBEq]
        rw [stR3_ok (e_isVal _) (by rw [e_okS]; rfl) ((e_sh _).trans rfl)]
        simp only [setAt_nil, bR, Nat.reduceEqDiff, reduceIte, Int.reduceBNe, Int.reduceBEq]
        refine .done (hK _ ?_); clear hK K; simp only [thenQ, blockQ]
        refine AW.seq ?_
        refine AW.reg cd11_18 fun K hK => ?_
        simp only [g11_18, bR, Nat.reduceEqDiff, reduceIte, Int.reduceBNe, Int.reduceBEq]
        refine .done (hK _ ?_); clear hK K; simp only [thenQ, blockQ]
        refine AW.ite ?_
        simp only [condQ, bR, Nat.reduceEqDiff, reduceIte, Int.reduceBNe, Int.reduceBEq]
        refine ⟨fun h => ?_, fun h => ?_⟩
        · cases h
        refine AW.skip ?_; simp only [thenQ, blockQ, reduceIte, Nat.reduceEqDiff]
        refine Sub.of_lists ?_ ?_ ?_ ?_ <;> simp [subT, subO, onlyT, onlyO, isIn, look_cons, lookO_cons, lookO_nil, AV.only, AV.onlys, AO.only, onlys_map, onlys_append, e_only, e_int, e_bool]
      · refine AW.skip ?_; simp only [thenQ, blockQ, reduceIte, Nat.reduceEqDiff]
        refine Sub.of_lists ?_ ?_ ?_ ?_ <;> simp [subT, subO, onlyT, onlyO, isIn, look_cons, lookO_cons, lookO_nil, AV.only, AV.onlys, AO.only, onlys_map, onlys_append, e_only, e_int, e_bool]
    simp only [thenQ, blockQ]
    refine AW.sub hB ?_
    obtain ⟨c, hc⟩ : ∃ c : Marks, c = ⟨m.wear, m.fls, m.given ++ [⟨99, dgs k⟩]⟩ := ⟨_, rfl⟩
    have hwith : withM m ⟨99, dgs k⟩ = c := by
      rw [hc]; simp only [withM, hpos, ins_end]
    have hadd : addR m ⟨99, dgs k⟩ = (c, 0) := by rw [← hwith]; simp [addR, ha99, hfnd, okMark_dgs, h40, hk2]
    have hgive : giveR m 99 = (c, 0) := by rw [← hwith]; simp [giveR, ha99, hfnd, hnx]
    have hcok : okM c = true := by
      rw [hc]; exact okM_end hok (by omega) (g := ⟨99, dgs k⟩) ⟨show (1 : Int) ≤ 99 by decide, show (99 : Int) ≤ 99 by decide⟩ (okMark_dgs k) hk2 hown
    refine AW.seq (AW.reg cd11_20 fun K hK => ?_)
    simp only [g11_20, bR, Nat.reduceEqDiff, reduceIte, Int.reduceBNe, Int.reduceBEq]
    simp only [typR, useR, okR, e_fin, e_a5, e_a6, bldG, e_G, bR, Nat.reduceEqDiff, reduceIte, Int.reduceBNe, Int.reduceBEq]
    refine .lead _ (F59 m ⟨99, dgs k⟩) ?_
    simp only [hadd, typR, bR, Nat.reduceEqDiff, reduceIte, Int.reduceBNe, Int.reduceBEq]
    rw [stR3_ok (e_isVal _) (by rw [e_okS]; rfl) ((e_sh _).trans rfl)]
    simp only [setAt_nil, bR, Nat.reduceEqDiff, reduceIte, Int.reduceBNe, Int.reduceBEq]
    refine .done (hK _ ?_); clear hK K; simp only [thenQ, blockQ]
    refine AW.seq (AW.reg cd11_21 fun K hK => ?_)
    simp only [g11_21, bR, Nat.reduceEqDiff, reduceIte, Int.reduceBNe, Int.reduceBEq]
    simp only [typR, useR, okR, e_fin, e_a5, bR, Nat.reduceEqDiff, reduceIte, Int.reduceBNe, Int.reduceBEq]
    refine .lead _ (F57 m 99) ?_
    simp only [hgive, typR, bR, Nat.reduceEqDiff, reduceIte, Int.reduceBNe, Int.reduceBEq]
    rw [stR3_ok (e_isVal _) (by rw [e_okS]; rfl) ((e_sh _).trans rfl)]
    simp only [setAt_nil, bR, Nat.reduceEqDiff, reduceIte, Int.reduceBNe, Int.reduceBEq]
    refine .done (hK _ ?_); clear hK K; simp only [thenQ, blockQ]
    refine AW.seq (AW.seq ?_)
    refine AW.reg cd11_22 fun K hK => ?_
    simp only [g11_22, bR, Nat.reduceEqDiff, reduceIte, Int.reduceBNe, Int.reduceBEq]
    simp only [typR, useR, okR, e_fin, bR, Nat.reduceEqDiff, reduceIte, Int.reduceBNe, Int.reduceBEq]
    refine .flat _ (F63 c c) rfl ?_
    simp only [typR, useR, okR, e_fin, sameM_refl, Bool.not_true, bR, Nat.reduceEqDiff, reduceIte, Int.reduceBNe, Int.reduceBEq]
    refine .flat _ (F47 c) rfl ?_
    rw [hcok]
    try simp only [typR, useR, okR, e_fin, bR, Nat.reduceEqDiff, reduceIte, Int.reduceBNe, Int.reduceBEq]
    refine .done (hK _ ?_); clear hK K; simp only [thenQ, blockQ]
    refine AW.ite ?_
    simp only [condQ, bR, Nat.reduceEqDiff, reduceIte, Int.reduceBNe, Int.reduceBEq]
    refine ⟨fun h => ?_, fun h => ?_⟩
    · first | cases h | simp at h
    refine AW.skip ?_; simp only [thenQ, blockQ, reduceIte, Nat.reduceEqDiff]
    refine AW.seq (AW.seq ?_)
    refine AW.reg cd11_24 fun K hK => ?_
    simp only [g11_24, bR, Nat.reduceEqDiff, reduceIte, Int.reduceBNe, Int.reduceBEq]
    refine .done (hK _ ?_); clear hK K; simp only [thenQ, blockQ]
    refine AW.block (AW.loop (fun i : Nat => mkA [(2, .int .i64 o2), (7, .ptr 7 []), (16, .ptr 16 []), (20, .int .i64 i)] [(7, .box (enc m)), (16, .box (enc c))]) (fun i => i ≤ m.given.length) (fun i => m.given.length - i) 0 (by omega) ?_ (fun i hi => ?_))
    · refine Sub.of_lists ?_ ?_ ?_ ?_ <;> simp [subT, subO, onlyT, onlyO, isIn, look_cons, lookO_cons, lookO_nil, AV.only, AV.onlys, AO.only, onlys_map, onlys_append, e_only, e_int, e_bool]
    refine AW.seq (AW.seq ?_)
    refine AW.reg cd11_25 fun K hK => ?_
    simp only [g11_25, bR, Nat.reduceEqDiff, reduceIte, Int.reduceBNe, Int.reduceBEq]
    try simp only [typR, useR, okR, e_fin, bR, Nat.reduceEqDiff, reduceIte, Int.reduceBNe, Int.reduceBEq]
    refine .done (hK _ ?_); clear hK K; simp only [thenQ, blockQ]
    refine AW.ite ?_
    simp only [condQ, bR, Nat.reduceEqDiff, reduceIte, Int.reduceBNe, Int.reduceBEq]
    refine ⟨fun h => ?_, fun h => ?_⟩
    · have hlt : i < m.given.length := by simpa using h
      have hin : gv m i ∈ c.given := by
        rw [hc]; exact List.mem_append_left _ (by rw [← gv_eq hlt]; exact List.getElem_mem hlt)
      have hmark := mark_there hcok hin
      refine AW.skip ?_; simp only [thenQ, blockQ, reduceIte, Nat.reduceEqDiff]
      refine AW.seq (AW.block ?_)
      refine AW.seq (AW.reg cd11_26 fun K hK => ?_)
      simp only [g11_26, bR, Nat.reduceEqDiff, reduceIte, Int.reduceBNe, Int.reduceBEq]
      simp only [isE_gv hlt, typR, useR, okR, e_fin, bR, Nat.reduceEqDiff, reduceIte, Int.reduceBNe, Int.reduceBEq]
      refine .lead _ (F39 c (gv m i).owner) ?_
      simp only [hmark, typR, e_a6, stR3_6, bR, Nat.reduceEqDiff, reduceIte, Int.reduceBNe, Int.reduceBEq]
      refine .done (hK _ ?_); clear hK K; simp only [thenQ, blockQ]
      refine AW.seq ?_
      refine AW.reg cd11_27 fun K hK => ?_
      simp only [g11_27, bR, Nat.reduceEqDiff, reduceIte, Int.reduceBNe, Int.reduceBEq]
      simp only [isE_gv hlt, typR, useR, okR, e_fin, eqE_arr, decide_true, Bool.not_true, bR, Nat.reduceEqDiff, reduceIte, Int.reduceBNe, Int.reduceBEq]
      refine .done (hK _ ?_); clear hK K; simp only [thenQ, blockQ]
      refine AW.ite ?_
      simp only [condQ, bR, Nat.reduceEqDiff, reduceIte, Int.reduceBNe, Int.reduceBEq]
      refine ⟨fun h => ?_, fun h => ?_⟩
      · first | cases h | simp at h
      refine AW.skip ?_; simp only [thenQ, blockQ, reduceIte, Nat.reduceEqDiff]
      refine AW.reg cd11_29 fun K hK => ?_
      simp only [g11_29, bR, Nat.reduceEqDiff, reduceIte, Int.reduceBNe, Int.reduceBEq]
      refine .done (hK _ ?_); clear hK K; simp only [thenQ, blockQ]
      refine ⟨i + 1, by omega, by omega, ?_⟩
      rw [wrap_id _ (by omega) (by omega)]
      refine Sub.of_lists ?_ ?_ ?_ ?_ <;> simp [subT, subO, onlyT, onlyO, isIn, look_cons, lookO_cons, lookO_nil, AV.only, AV.onlys, AO.only, onlys_map, onlys_append, e_only, e_int, e_bool]
    have hie : i = m.given.length := by simp at h; omega
    refine AW.exit ?_; simp only [thenQ, blockQ, reduceIte, Nat.reduceEqDiff]
    have hcp : posOf c.given 99 = m.given.length := by
      have : ∀ x ∈ m.given, decide (99 ≤ x.owner) = false := fun x hx => by have := hown x hx; simp; omega
      rw [hc]
      simp only [posOf]
      rw [List.findIdx_append, List.findIdx_eq_length_of_false this]
      simp [List.findIdx_cons]
    have hcf : foundAt c.given 99 = true := by
      have hlt : posOf c.given 99 < c.given.length := by rw [hcp, hc]; simp
      simp only [foundAt, hlt, dif_pos]
      simp only [hcp]
      rw [show c.given[m.given.length]'(by rw [hc]; simp) = (⟨99, dgs k⟩ : Given) by simp [hc]]
      rfl
    have hback : takeR c 99 = (m, 0) := by
      have h1 : askedOf c 99 = 0 := asked_made hcok (by decide) (by decide)
      simp only [takeR, h1, hcf, hcp]
      rw [hc]
      simp [del_end]
    refine AW.seq (AW.reg cd11_30 fun K hK => ?_)
    simp only [g11_30, bR, Nat.reduceEqDiff, reduceIte, Int.reduceBNe, Int.reduceBEq]
    simp only [typR, useR, okR, e_fin, e_a5, bR, Nat.reduceEqDiff, reduceIte, Int.reduceBNe, Int.reduceBEq]
    refine .lead _ (F61 c 99) ?_
    simp only [hback, typR, bR, Nat.reduceEqDiff, reduceIte, Int.reduceBNe, Int.reduceBEq]
    rw [stR3_ok (e_isVal _) (by rw [e_okS]; rfl) ((e_sh _).trans rfl)]
    simp only [setAt_nil, bR, Nat.reduceEqDiff, reduceIte, Int.reduceBNe, Int.reduceBEq]
    refine .done (hK _ ?_); clear hK K; simp only [thenQ, blockQ]
    refine AW.seq (AW.reg cd11_31 fun K hK => ?_)
    simp only [g11_31, bR, Nat.reduceEqDiff, reduceIte, Int.reduceBNe, Int.reduceBEq]
    simp only [typR, useR, okR, e_fin, e_a5, bR, Nat.reduceEqDiff, reduceIte, Int.reduceBNe, Int.reduceBEq]
    refine .lead _ (F61 m o2) ?_
    simp only [typR, bR, Nat.reduceEqDiff, reduceIte, Int.reduceBNe, Int.reduceBEq]
    rw [stR3_ok (e_isVal _) (by rw [e_okS]; rfl) ((e_sh _).trans rfl)]
    simp only [setAt_nil, bR, Nat.reduceEqDiff, reduceIte, Int.reduceBNe, Int.reduceBEq]
    refine .done (hK _ ?_); clear hK K; simp only [thenQ, blockQ]
    refine AW.seq (AW.reg cd11_32 fun K hK => ?_)
    simp only [g11_32, bR, Nat.reduceEqDiff, reduceIte, Int.reduceBNe, Int.reduceBEq]
    simp only [typR, useR, okR, e_fin, e_a5, bR, Nat.reduceEqDiff, reduceIte, Int.reduceBNe, Int.reduceBEq]
    refine .lead _ (F39 m o2) ?_
    rw [take_mark]
    simp only [typR, e_a6, stR3_6, bR, Nat.reduceEqDiff, reduceIte, Int.reduceBNe, Int.reduceBEq]
    refine .done (hK _ ?_); clear hK K; simp only [thenQ, blockQ]
    refine AW.seq (AW.reg cd11_33 fun K hK => ?_)
    simp only [g11_33, bR, Nat.reduceEqDiff, reduceIte, Int.reduceBNe, Int.reduceBEq]
    simp only [typR, useR, okR, e_fin, bR, Nat.reduceEqDiff, reduceIte, Int.reduceBNe, Int.reduceBEq]
    refine .flat _ (F63 m m) rfl ?_
    simp only [typR, useR, okR, e_fin, sameM_refl, BEq.rfl, bR, Nat.reduceEqDiff, reduceIte, Int.reduceBNe, Int.reduceBEq]
    refine .flat _ F21 rfl ?_
    try simp only [typR, useR, okR, e_fin, bR, Nat.reduceEqDiff, reduceIte, Int.reduceBNe, Int.reduceBEq]
    refine .done (hK _ ?_); clear hK K; simp only [thenQ, blockQ]
    refine AW.ret ?_
    simp only [blockQ, thenQ, bR, Nat.reduceEqDiff, reduceIte, Int.reduceBNe, Int.reduceBEq]
end Go.Proofs.Ytkjkbpgdpnapfaa

/-
  THE LAWS' ARGUMENTS, TAKEN AS DATA: the types of the statements.
-/
namespace Go.Proofs.Ytkjkbpgdpnapfaa
open Go Go.Abs Go.ChangeShapes Go.WideShapes Go.RowKit
open Go.Abs.Enc (enc)
theorem Try.own : ownKnob Try.prog.godebug = none := by kernel_rfl
theorem Try.laidOut : laidOutB Try.prog = true := by kernel_rfl
theorem oInt : Opens Try.prog 3 Int := opens_int (by kernel_rfl) (by kernel_rfl)
theorem oInts : Opens Try.prog 29 (List Int) := opens_list (by kernel_rfl) oInt (by kernel_rfl)
theorem rvs3 {w : World} {D : Dom} {E : Env} {x y z : AV} {a b c : Value} (hx : ∃ cs, isPack x a cs ∧ rc w D E x cs) (hy : ∃ cs, isPack y b cs ∧ rc w D E y cs) (hz : ∃ cs, isPack z c cs ∧ rc w D E z cs) : rvs w D E [x, y, z] [a, b, c] := by
  obtain ⟨c1, h1, h2⟩ := hx
  obtain ⟨c2, h3, h4⟩ := hy
  obtain ⟨c3, h5, h6⟩ := hz
  simp only [rvs]
  exact ⟨a, [b, c], c1, rfl, h1, h2, b, [c], c2, rfl, h3, h4, c, [], c3, rfl, h5, h6, rfl⟩
end Go.Proofs.Ytkjkbpgdpnapfaa

/-
  PROVED HERE: the law MarkNext returns true for every input, and each argument reads afterwards as it read before. Conditions: none beyond the statement's own.
-/
namespace Go.Proofs.Ytkjkbpgdpnapfaa
open Go Go.Abs Go.ChangeShapes Go.WideShapes Go.ChangeAt Go.RowKit
open Go.Abs.Enc (enc)
set_option maxRecDepth 100000 in
theorem markNext_lifted (os : Os) (started : os.Started) (H : Type) (enc0 : TypeId × Value → H) :
    ReturnsInHanded {} Try.checked os 11 .any (Rows.markNextSpec.pre6 enc0 Try.prog Try.f11 Rows.markNextRow.domain false) (Rows.markNextSpec.post enc0 Try.prog Try.f11 false true false false) := by
  refine returnsInHanded_of_change_sized (C := Try.checked) Try.own started (by kernel_rfl) Try.func11
    (ChangeSpec.witness6 (enc := enc0) (C := Try.checked) false ⟨#[], #[.slice none 0 0, .int .i64 0, .int .i64 0], []⟩ 8 (by kernel_rfl) (by kernel_rfl) (by kernel_rfl) (by kernel_rfl)) ?_
  intro W base args ds gs before hval0 hW hcnd hz0 _
  have hval : ∀ (j : Nat) t v, Try.f11.params[j]? = some t → args[j]? = some v → Value.okWide Try.prog W .any base t v := hval0
  have hz : (DataW.weightsEach Try.prog (Try.f11.params.toList ++ Rows.markNextSpec.plain.varTypes Try.prog) (ds ++ gs)).all (· ≤ reachBytes) = true := hz0
  have hW' := hW
  obtain ⟨p, q, hA0, hV, hbef, hfz, hnd⟩ := hW
  have hA : DataW.TrodAll enc0 Try.prog W 0 (fun _ => true) true Try.f11.params.toList args.toList ds p := hA0
  rw [Try.params11] at hA hval hz
  obtain ⟨v0, v1, v2, d0, d1, d2, p0, p1, p2, rfl, rfl, rfl, h0, h1, h2⟩ := trodAll_three hA
  obtain ⟨rfl, rfl⟩ := trodVars_none hV
  obtain ⟨a0, k0, l0⟩ := open_len oInts (e := 3) (by kernel_rfl) (hval 0 29 v0 rfl rfl) h0
  obtain ⟨a1, c1, k1⟩ := open_cell oInt rfl (by kernel_rfl) (hval 1 3 v1 rfl rfl) h1
  obtain ⟨a2, c2, k2⟩ := open_cell oInt rfl (by kernel_rfl) (hval 2 3 v2 rfl rfl) h2
  have n0 := len_bound hz (j := 0) (t := 29) (e := 3) rfl rfl (by kernel_rfl) (of_decide_eq_true (by kernel_rfl)) l0
  exact law_post (tb := 4) Try.laidOut (by rw [Try.params11]) rfl rfl (by rw [hbef]; simp) rfl rfl (by kernel_rfl) (by kernel_rfl) hW' h0 h1 h2 (by
    intro t ht
    simp only [List.mem_cons, List.mem_nil_iff, or_false] at ht
    rcases ht with rfl | rfl | rfl <;> exact ⟨by kernel_rfl, of_decide_eq_true (by kernel_rfl)⟩) (F11 a0 a1 a2 (by omega)) (rvs3 k0 ⟨c1, k1⟩ ⟨c2, k2⟩)
theorem markNext_holds : Rows.MarkNextSaid :=
  OpenClaim.holds_of_wide 11 Try.f11 rfl rfl rfl rfl rfl rfl rfl ⟨rfl, rfl, rfl, rfl, rfl⟩ rfl rfl rfl rfl rfl (by kernel_rfl) Try.func11 (by kernel_rfl)
    (of_decide_eq_true (by kernel_rfl)) (by unfold Func.isWrapper; first | (rw [if_pos (by decide +kernel)]; kernel_rfl) | (rw [if_neg (by decide +kernel)]; exact ⟨rfl, rfl⟩))
    (fun os started H enc0 _ => markNext_lifted os started H enc0)
#print axioms markNext_holds
end Go.Proofs.Ytkjkbpgdpnapfaa

