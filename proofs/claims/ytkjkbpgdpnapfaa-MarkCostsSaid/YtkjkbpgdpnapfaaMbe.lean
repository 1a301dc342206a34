/-
  FUNCTIONS OF THE REFERENCE BY CONTRACT: Cost, Distance.
-/
import Derived.RangeFuncIn
import Derived.Test.YtkjkbpgdpnapfaaMbd
set_option linter.unusedSimpArgs false
set_option linter.unusedVariables false
namespace Go.Proofs.Ytkjkbpgdpnapfaa
open Go Go.Abs
open Go.Abs.Enc (enc)

def costR (w : Arr 5 Int) (a r : Arr 6 Int) : Int × Int := if okWear w then (if okMark a then (if okReading r then (costOf w a r, 0) else (0, 12)) else (0, 10)) else (0, 11)

theorem F49 (w : Arr 5 Int) (a r : Arr 6 Int) : Ctr Try.prog 49 [enc w, enc a, enc r] (.tuple [enc (costR w a r).1, enc (costR w a r).2]) := by
  refine Ctr.mk' Try.func49 ca49 cc49 cr49 (Nat.le_of_ble_eq_true rfl) (fun hwf W0 D0 E1 => ?_)
  simp only [c49, r49, idx, Nat.zero_add, Nat.reduceAdd]
  refine AW.seq (AW.reg cd49_0 fun K hK => ?_)
  simp only [g49_0, bR, Nat.reduceEqDiff, reduceIte, Int.reduceBNe, Int.reduceBEq]
  refine .done (hK _ ?_); clear hK K; simp only [thenQ, blockQ]
  refine AW.seq (AW.seq ?_)
  refine AW.reg cd49_1 fun K hK => ?_
  simp only [g49_1, bR, Nat.reduceEqDiff, reduceIte, Int.reduceBNe, Int.reduceBEq]
  simp only [typR, useR, okR, e_fin, bR, Nat.reduceEqDiff, reduceIte, Int.reduceBNe, Int.reduceBEq]
  refine .flat _ (F44' w) rfl ?_
  generalize hw : okWear w = bw
  cases bw
  · simp only [typR, useR, okR, bR, Nat.reduceEqDiff, reduceIte, Int.reduceBNe, Int.reduceBEq]
    refine .done (hK _ ?_); clear hK K; simp only [thenQ, blockQ]
    refine AW.ite ?_
    simp only [condQ, bR, Nat.reduceEqDiff, reduceIte, Int.reduceBNe, Int.reduceBEq]
    refine ⟨fun h => ?_, fun h => ?_⟩
    · refine AW.seq (AW.reg cd49_2 fun K hK => ?_)
      simp only [g49_2, bR, Nat.reduceEqDiff, reduceIte, Int.reduceBNe, Int.reduceBEq]
      refine .done (hK _ ?_); clear hK K; simp only [thenQ, blockQ]
      refine AW.ret ?_
      simp only [blockQ, thenQ, bR, Nat.reduceEqDiff, reduceIte, Int.reduceBNe, Int.reduceBEq]
      simp [costR, hw]
    · cases h
  simp only [typR, useR, okR, bR, Nat.reduceEqDiff, reduceIte, Int.reduceBNe, Int.reduceBEq]
  refine .done (hK _ ?_); clear hK K; simp only [thenQ, blockQ]
  refine AW.ite ?_
  simp only [condQ, bR, Nat.reduceEqDiff, reduceIte, Int.reduceBNe, Int.reduceBEq]
  refine ⟨fun h => ?_, fun h => ?_⟩
  · cases h
  refine AW.skip ?_; simp only [thenQ, blockQ, reduceIte, Nat.reduceEqDiff]
  refine AW.seq (AW.seq ?_)
  refine AW.reg cd49_3 fun K hK => ?_
  simp only [g49_3, bR, Nat.reduceEqDiff, reduceIte, Int.reduceBNe, Int.reduceBEq]
  simp only [typR, useR, okR, e_fin, bR, Nat.reduceEqDiff, reduceIte, Int.reduceBNe, Int.reduceBEq]
  refine .flat _ (F42' a) rfl ?_
  generalize ha : okMark a = ba
  cases ba
  · simp only [typR, useR, okR, bR, Nat.reduceEqDiff, reduceIte, Int.reduceBNe, Int.reduceBEq]
    refine .done (hK _ ?_); clear hK K; simp only [thenQ, blockQ]
    refine AW.ite ?_
    simp only [condQ, bR, Nat.reduceEqDiff, reduceIte, Int.reduceBNe, Int.reduceBEq]
    refine ⟨fun h => ?_, fun h => ?_⟩
    · refine AW.seq (AW.reg cd49_4 fun K hK => ?_)
      simp only [g49_4, bR, Nat.reduceEqDiff, reduceIte, Int.reduceBNe, Int.reduceBEq]
      refine .done (hK _ ?_); clear hK K; simp only [thenQ, blockQ]
      refine AW.ret ?_
      simp only [blockQ, thenQ, bR, Nat.reduceEqDiff, reduceIte, Int.reduceBNe, Int.reduceBEq]
      simp [costR, hw, ha]
    · cases h
  simp only [typR, useR, okR, bR, Nat.reduceEqDiff, reduceIte, Int.reduceBNe, Int.reduceBEq]
  refine .done (hK _ ?_); clear hK K; simp only [thenQ, blockQ]
  refine AW.ite ?_
  simp only [condQ, bR, Nat.reduceEqDiff, reduceIte, Int.reduceBNe, Int.reduceBEq]
  refine ⟨fun h => ?_, fun h => ?_⟩
  · cases h
  refine AW.skip ?_; simp only [thenQ, blockQ, reduceIte, Nat.reduceEqDiff]
  refine AW.seq (AW.seq ?_)
  refine AW.reg cd49_5 fun K hK => ?_
  simp only [g49_5, bR, Nat.reduceEqDiff, reduceIte, Int.reduceBNe, Int.reduceBEq]
  simp only [typR, useR, okR, e_fin, bR, Nat.reduceEqDiff, reduceIte, Int.reduceBNe, Int.reduceBEq]
  refine .flat _ (F46' r) rfl ?_
  generalize hr : okReading r = br
  cases br
  · simp only [typR, useR, okR, bR, Nat.reduceEqDiff, reduceIte, Int.reduceBNe, Int.reduceBEq]
    refine .done (hK _ ?_); clear hK K; simp only [thenQ, blockQ]
    refine AW.ite ?_
    simp only [condQ, bR, Nat.reduceEqDiff, reduceIte, Int.reduceBNe, Int.reduceBEq]
    refine ⟨fun h => ?_, fun h => ?_⟩
    · refine AW.seq (AW.reg cd49_6 fun K hK => ?_)
      simp only [g49_6, bR, Nat.reduceEqDiff, reduceIte, Int.reduceBNe, Int.reduceBEq]
      refine .done (hK _ ?_); clear hK K; simp only [thenQ, blockQ]
      refine AW.ret ?_
      simp only [blockQ, thenQ, bR, Nat.reduceEqDiff, reduceIte, Int.reduceBNe, Int.reduceBEq]
      simp [costR, hw, ha, hr]
    · cases h
  simp only [typR, useR, okR, bR, Nat.reduceEqDiff, reduceIte, Int.reduceBNe, Int.reduceBEq]
  refine .done (hK _ ?_); clear hK K; simp only [thenQ, blockQ]
  refine AW.ite ?_
  simp only [condQ, bR, Nat.reduceEqDiff, reduceIte, Int.reduceBNe, Int.reduceBEq]
  refine ⟨fun h => ?_, fun h => ?_⟩
  · cases h
  refine AW.skip ?_; simp only [thenQ, blockQ, reduceIte, Nat.reduceEqDiff]
  refine AW.seq (AW.reg cd49_7 fun K hK => ?_)
  simp only [g49_7, bR, Nat.reduceEqDiff, reduceIte, Int.reduceBNe, Int.reduceBEq]
  simp only [typR, useR, okR, e_fin, bR, Nat.reduceEqDiff, reduceIte, Int.reduceBNe, Int.reduceBEq]
  refine .flat _ (F86 w a r ha) rfl ?_
  simp only [typR, useR, okR, bR, Nat.reduceEqDiff, reduceIte, Int.reduceBNe, Int.reduceBEq]
  refine .done (hK _ ?_); clear hK K; simp only [thenQ, blockQ]
  refine AW.seq (AW.reg cd49_8 fun K hK => ?_)
  simp only [g49_8, bR, Nat.reduceEqDiff, reduceIte, Int.reduceBNe, Int.reduceBEq]
  refine .done (hK _ ?_); clear hK K; simp only [thenQ, blockQ]
  refine AW.ret ?_
  simp only [blockQ, thenQ, bR, Nat.reduceEqDiff, reduceIte, Int.reduceBNe, Int.reduceBEq]
  simp [costR, hw, ha, hr]

def distR (w : Arr 5 Int) (a b : Arr 6 Int) : Int × Int := if okWear w then (if okMark a then (if okMark b then ((cnt (apartAt w a b) 6 : Int), 0) else (0, 10)) else (0, 10)) else (0, 11)

theorem F50 (w : Arr 5 Int) (a b : Arr 6 Int) : Ctr Try.prog 50 [enc w, enc a, enc b] (.tuple [enc (distR w a b).1, enc (distR w a b).2]) := by
  refine Ctr.mk' Try.func50 ca50 cc50 cr50 (Nat.le_of_ble_eq_true rfl) (fun hwf W0 D0 E1 => ?_)
  simp only [c50, r50, idx, Nat.zero_add, Nat.reduceAdd]
  refine AW.seq (AW.reg cd50_0 fun K hK => ?_)
  simp only [g50_0, bR, Nat.reduceEqDiff, reduceIte, Int.reduceBNe, Int.reduceBEq]
  refine .done (hK _ ?_); clear hK K; simp only [thenQ, blockQ]
  refine AW.seq (AW.seq ?_)
  refine AW.reg cd50_1 fun K hK => ?_
  simp only [g50_1, bR, Nat.reduceEqDiff, reduceIte, Int.reduceBNe, Int.reduceBEq]
  simp only [typR, useR, okR, e_fin, bR, Nat.reduceEqDiff, reduceIte, Int.reduceBNe, Int.reduceBEq]
  refine .flat _ (F44' w) rfl ?_
  generalize hw : okWear w = bw
  cases bw
  · simp only [typR, useR, okR, bR, Nat.reduceEqDiff, reduceIte, Int.reduceBNe, Int.reduceBEq]
    refine .done (hK _ ?_); clear hK K; simp only [thenQ, blockQ]
    refine AW.ite ?_
    simp only [condQ, bR, Nat.reduceEqDiff, reduceIte, Int.reduceBNe, Int.reduceBEq]
    refine ⟨fun h => ?_, fun h => ?_⟩
    · refine AW.seq (AW.reg cd50_2 fun K hK => ?_)
      simp only [g50_2, bR, Nat.reduceEqDiff, reduceIte, Int.reduceBNe, Int.reduceBEq]
      refine .done (hK _ ?_); clear hK K; simp only [thenQ, blockQ]
      refine AW.ret ?_
      simp only [blockQ, thenQ, bR, Nat.reduceEqDiff, reduceIte, Int.reduceBNe, Int.reduceBEq]
      simp [distR, hw]
    · cases h
  simp only [typR, useR, okR, bR, Nat.reduceEqDiff, reduceIte, Int.reduceBNe, Int.reduceBEq]
  refine .done (hK _ ?_); clear hK K; simp only [thenQ, blockQ]
  refine AW.ite ?_
  simp only [condQ, bR, Nat.reduceEqDiff, reduceIte, Int.reduceBNe, Int.reduceBEq]
  refine ⟨fun h => ?_, fun h => ?_⟩
  · cases h
  refine AW.skip ?_; simp only [thenQ, blockQ, reduceIte, Nat.reduceEqDiff]
  refine AW.seq (AW.seq ?_)
  refine AW.reg cd50_3 fun K hK => ?_
  simp only [g50_3, bR, Nat.reduceEqDiff, reduceIte, Int.reduceBNe, Int.reduceBEq]
  simp only [typR, useR, okR, e_fin, bR, Nat.reduceEqDiff, reduceIte, Int.reduceBNe, Int.reduceBEq]
  refine .flat _ (F42' a) rfl ?_
  generalize ha : okMark a = ba
  cases ba
  · simp only [typR, useR, okR, bR, Nat.reduceEqDiff, reduceIte, Int.reduceBNe, Int.reduceBEq]
    refine .done (hK _ ?_); clear hK K; simp only [thenQ, blockQ]
    refine AW.ite ?_
    simp only [condQ, bR, Nat.reduceEqDiff, reduceIte, Int.reduceBNe, Int.reduceBEq]
    refine ⟨fun h => ?_, fun h => ?_⟩
    · refine AW.seq (AW.reg cd50_4 fun K hK => ?_)
      simp only [g50_4, bR, Nat.reduceEqDiff, reduceIte, Int.reduceBNe, Int.reduceBEq]
      refine .done (hK _ ?_); clear hK K; simp only [thenQ, blockQ]
      refine AW.ret ?_
      simp only [blockQ, thenQ, bR, Nat.reduceEqDiff, reduceIte, Int.reduceBNe, Int.reduceBEq]
      simp [distR, hw, ha]
    · cases h
  simp only [typR, useR, okR, e_fin, bR, Nat.reduceEqDiff, reduceIte, Int.reduceBNe, Int.reduceBEq]
  refine .flat _ (F42' b) rfl ?_
  generalize hb : okMark b = bb
  cases bb
  · simp only [typR, useR, okR, bR, Nat.reduceEqDiff, reduceIte, Int.reduceBNe, Int.reduceBEq]
    refine .done (hK _ ?_); clear hK K; simp only [thenQ, blockQ]
    refine AW.ite ?_
    simp only [condQ, bR, Nat.reduceEqDiff, reduceIte, Int.reduceBNe, Int.reduceBEq]
    refine ⟨fun h => ?_, fun h => ?_⟩
    · refine AW.seq (AW.reg cd50_4 fun K hK => ?_)
      simp only [g50_4, bR, Nat.reduceEqDiff, reduceIte, Int.reduceBNe, Int.reduceBEq]
      refine .done (hK _ ?_); clear hK K; simp only [thenQ, blockQ]
      refine AW.ret ?_
      simp only [blockQ, thenQ, bR, Nat.reduceEqDiff, reduceIte, Int.reduceBNe, Int.reduceBEq]
      simp [distR, hw, ha, hb]
    · cases h
  simp only [typR, useR, okR, bR, Nat.reduceEqDiff, reduceIte, Int.reduceBNe, Int.reduceBEq]
  refine .done (hK _ ?_); clear hK K; simp only [thenQ, blockQ]
  refine AW.ite ?_
  simp only [condQ, bR, Nat.reduceEqDiff, reduceIte, Int.reduceBNe, Int.reduceBEq]
  refine ⟨fun h => ?_, fun h => ?_⟩
  · cases h
  refine AW.skip ?_; simp only [thenQ, blockQ, reduceIte, Nat.reduceEqDiff]
  refine AW.seq (AW.reg cd50_5 fun K hK => ?_)
  simp only [g50_5, bR, Nat.reduceEqDiff, reduceIte, Int.reduceBNe, Int.reduceBEq]
  simp only [typR, useR, okR, e_fin, bR, Nat.reduceEqDiff, reduceIte, Int.reduceBNe, Int.reduceBEq]
  refine .flat _ (F99 w a b ha hb) rfl ?_
  simp only [typR, useR, okR, bR, Nat.reduceEqDiff, reduceIte, Int.reduceBNe, Int.reduceBEq]
  refine .done (hK _ ?_); clear hK K; simp only [thenQ, blockQ]
  refine AW.seq (AW.reg cd50_6 fun K hK => ?_)
  simp only [g50_6, bR, Nat.reduceEqDiff, reduceIte, Int.reduceBNe, Int.reduceBEq]
  refine .done (hK _ ?_); clear hK K; simp only [thenQ, blockQ]
  refine AW.ret ?_
  simp only [blockQ, thenQ, bR, Nat.reduceEqDiff, reduceIte, Int.reduceBNe, Int.reduceBEq]
  simp [distR, hw, ha, hb]

end Go.Proofs.Ytkjkbpgdpnapfaa

/-
  ARRAYS WRITTEN PLACE BY PLACE; by contract: Numbered.
-/
namespace Go.Proofs.Ytkjkbpgdpnapfaa
open Go Go.Abs
open Go.Abs.Enc (enc)

def upd {n : Nat} (x : Arr n Int) (k : Nat) (v : Int) : Arr n Int := ⟨x.l.set k v, by simp [x.h]⟩
theorem g_upd {n : Nat} (x : Arr n Int) (k j : Nat) (v : Int) (h : k < n) : (upd x k v).g j = if k = j then v else x.g j := by
  simp only [Arr.g, upd, List.getD_eq_getElem?_getD, List.getElem?_set]
  by_cases hkj : k = j
  · subst hkj; simp [x.lt h]
  · simp [hkj]
theorem setAt_g {n k : Nat} (x : Arr n Int) (h : k < n) (v : Int) : (enc x : AV).setAt [k] (.int .i64 v) = enc (upd x k v) := by
  have h1 : (enc x : AV).flds = some (x.l.map enc) := rfl
  rw [setAt_cons, h1]
  simp only [setL, get_g x h, setO2, setAt_nil]
  change AV.agg _ = AV.agg ((x.l.set k v).map enc)
  rw [List.map_set]; rfl
theorem stR3_g {A : AState} {n m k : Nat} (x : Arr m Int) (h : k < m) {v u : Int} {rest : List G} : stR3 A none n [k] (enc x) (.int .i64 v) rest (some (.int .i64 u)) = aops rest (A.setO n (.box (enc (upd x k v)))) := by
  rw [stR3_ok (s := none) (v := .int .i64 v) (old := .int .i64 u) rfl rfl rfl, setAt_g x h]

def nd (n : Int) : Nat → Int
  | 0 => n
  | k + 1 => (nd n k).tdiv 5
def digits (n : Int) : Nat → Arr 6 Int
  | 0 => zero6
  | k + 1 => upd (digits n k) (5 - k) ((nd n k).tmod 5)

theorem nd_in (n : Int) (h : -9223372036854775808 ≤ n ∧ n ≤ 9223372036854775807) : ∀ k, -9223372036854775808 ≤ nd n k ∧ nd n k ≤ 9223372036854775807
  | 0 => h
  | k + 1 => by
    have := nd_in n h k
    simp only [nd]
    rcases Int.le_total 0 (nd n k) with h0 | h0
    · rw [Int.tdiv_eq_ediv_of_nonneg h0]; omega
    · have : (nd n k).tdiv 5 = -((-(nd n k)) / 5) := by
        rw [← Int.tdiv_eq_ediv_of_nonneg (by omega), Int.neg_tdiv, Int.neg_neg]
      omega

theorem F35 (n : Int) : Ctr Try.prog 35 [enc n] (enc (digits n 6)) := by
  refine Ctr.mk' Try.func35 ca35 cc35 cr35 (Nat.le_of_ble_eq_true rfl) (fun hwf W0 D0 E1 => ?_)
  simp only [c35, r35, idx, Nat.zero_add, Nat.reduceAdd]
  have hin := nd_in n ((wf_int n).1 hwf.1)
  have h5 : ¬ (5 : Int) = 0 := by decide
  refine AW.seq (AW.reg cd35_0 fun K hK => ?_)
  simp only [g35_0, bR, Nat.reduceEqDiff, reduceIte, Int.reduceBNe, Int.reduceBEq]
  refine .done (hK _ ?_); clear hK K; simp only [thenQ, blockQ]
  refine AW.seq (AW.reg cd35_1 fun K hK => ?_)
  simp only [g35_1, bR, Nat.reduceEqDiff, reduceIte, Int.reduceBNe, Int.reduceBEq]
  simp only [e_zero6]
  refine .done (hK _ ?_); clear hK K; simp only [thenQ, blockQ]
  refine AW.seq (AW.seq ?_)
  refine AW.reg cd35_2 fun K hK => ?_
  simp only [g35_2, bR, Nat.reduceEqDiff, reduceIte, Int.reduceBNe, Int.reduceBEq]
  refine .done (hK _ ?_); clear hK K; simp only [thenQ, blockQ]
  refine AW.block (AW.loop (fun k : Nat => mkA [(0, .int .i64 (nd n k)), (2, .ptr 2 []), (3, .ptr 3 []), (4, .int .i64 (5 - k))] [(2, .box (enc zero6)), (3, .box (enc (digits n k)))]) (fun k => k ≤ 6) (fun k => 6 - k) 0 (by omega) ?_ (fun k hk => ?_))
  · refine Sub.of_lists ?_ ?_ ?_ ?_ <;> simp [subT, subO, onlyT, onlyO, isIn, look_cons, lookO_cons, lookO_nil, AV.only, AV.onlys, AO.only, onlys_map, onlys_append, e_only, e_int, e_bool]
    all_goals rfl
  refine AW.seq (AW.seq ?_)
  refine AW.reg cd35_3 fun K hK => ?_
  simp only [g35_3, bR, Nat.reduceEqDiff, reduceIte, Int.reduceBNe, Int.reduceBEq]
  refine .done (hK _ ?_); clear hK K; simp only [thenQ, blockQ]
  refine AW.ite ?_
  simp only [condQ, bR, Nat.reduceEqDiff, reduceIte, Int.reduceBNe, Int.reduceBEq]
  refine ⟨fun h => ?_, fun h => ?_⟩
  · have hlt : k < 6 := by simp at h; omega
    have hd := hin k
    have e1 : ((5 : Int) - k).toNat = 5 - k := by omega
    have hlt' : 5 - k < 6 := by omega
    refine AW.skip ?_; simp only [thenQ, blockQ, reduceIte, Nat.reduceEqDiff]
    refine AW.seq (AW.block ?_)
    refine AW.seq (AW.reg cd35_4 fun K hK => ?_)
    simp only [g35_4, bR, Nat.reduceEqDiff, reduceIte, Int.reduceBNe, Int.reduceBEq]
    simp only [h5, useR, inB_int 1 (digits n k) (show (0 : Int) ≤ 5 - k ∧ (5 : Int) - k < (6 : Nat) by omega) rfl, e1, atL_g (digits n k) hlt', stR3_g (digits n k) hlt', bR, Nat.reduceEqDiff, reduceIte, Int.reduceBNe, Int.reduceBEq]
    refine .done (hK _ ?_); clear hK K; simp only [thenQ, blockQ]
    refine AW.reg cd35_5 fun K hK => ?_
    simp only [g35_5, bR, Nat.reduceEqDiff, reduceIte, Int.reduceBNe, Int.reduceBEq]
    simp only [h5, bR, Nat.reduceEqDiff, reduceIte, Int.reduceBNe, Int.reduceBEq]
    refine .done (hK _ ?_); clear hK K; simp only [thenQ, blockQ]
    refine AW.reg cd35_6 fun K hK => ?_
    simp only [g35_6, bR, Nat.reduceEqDiff, reduceIte, Int.reduceBNe, Int.reduceBEq]
    refine .done (hK _ ?_); clear hK K; simp only [thenQ, blockQ]
    refine ⟨k + 1, by omega, by omega, ?_⟩
    have hq := hin (k + 1)
    simp only [nd] at hq
    rw [wrap_id _ (by omega) (by omega), wrap_id _ hq.1 hq.2]
    have e2 : (5 : Int) - k - 1 = 5 - ((k + 1 : Nat) : Int) := by omega
    rw [e2]
    simp only [nd, digits]
    refine Sub.of_lists ?_ ?_ ?_ ?_ <;> simp [subT, subO, onlyT, onlyO, isIn, look_cons, lookO_cons, lookO_nil, AV.only, AV.onlys, AO.only, onlys_map, onlys_append, e_only, e_int, e_bool]
  · have hge : k = 6 := by simp at h; omega
    subst hge
    refine AW.exit ?_; simp only [thenQ, blockQ, reduceIte, Nat.reduceEqDiff]
    refine AW.seq (AW.reg cd35_7 fun K hK => ?_)
    simp only [g35_7, bR, Nat.reduceEqDiff, reduceIte, Int.reduceBNe, Int.reduceBEq]
    simp only [typR, useR, bR, Nat.reduceEqDiff, reduceIte, Int.reduceBNe, Int.reduceBEq]
    rw [stR3_ok (e_isVal _) (by rw [e_okS]; rfl) ((e_sh _).trans (e_sh _).symm)]
    simp only [bR, Nat.reduceEqDiff, reduceIte, Int.reduceBNe, Int.reduceBEq]
    refine .done (hK _ ?_); clear hK K; simp only [thenQ, blockQ]
    refine AW.ret ?_
    simp only [blockQ, thenQ, bR, Nat.reduceEqDiff, reduceIte, Int.reduceBNe, Int.reduceBEq]
    simp only [typR, e_fin, bR, Nat.reduceEqDiff, reduceIte, Int.reduceBNe, Int.reduceBEq]

end Go.Proofs.Ytkjkbpgdpnapfaa

/-
  FUNCTIONS OF THE REFERENCE BY CONTRACT: arePlaces.
-/
namespace Go.Proofs.Ytkjkbpgdpnapfaa
open Go Go.Abs
open Go.Abs.Enc (enc)

def placeAt (l : List Int) (i : Nat) : Bool := inR 0 5 (l.getD i 0) && (i == 0 || decide (l.getD (i - 1) 0 < l.getD i 0))
/-- Places, in their order, none twice. -/
def okPlaces (l : List Int) : Bool := (List.range l.length).all (placeAt l)

theorem isE_getD {A : AState} {l : List Int} {i : Nat} (h : i < l.length) : isE A 1 (i : Int) (enc l) = some (.ref (.int .i64 (l.getD i 0))) := by
  rw [isE_nat 1 h rfl]
  simp [List.getD_eq_getElem?_getD, h, e_int]

theorem F79 (l : List Int) : Ctr Try.prog 79 [enc l] (enc (okPlaces l)) := by
  refine Ctr.mk' Try.func79 ca79 cc79 cr79 (Nat.le_of_ble_eq_true rfl) (fun hwf W0 D0 E1 => ?_)
  simp only [c79, r79, idx, Nat.zero_add, Nat.reduceAdd]
  have hlen : l.length ≤ maxLen := ((wf_list l).1 hwf.1).1
  simp only [maxLen] at hlen
  refine AW.seq (AW.reg cd79_0 fun K hK => ?_)
  simp only [g79_0, bR, Nat.reduceEqDiff, reduceIte, Int.reduceBNe, Int.reduceBEq]
  refine .done (hK _ ?_); clear hK K; simp only [thenQ, blockQ]
  refine AW.seq ?_
  refine AW.seq (AW.reg cd79_1 fun K hK => ?_)
  simp only [g79_1, bR, Nat.reduceEqDiff, reduceIte, Int.reduceBNe, Int.reduceBEq]
  refine .done (hK _ ?_); clear hK K; simp only [thenQ, blockQ]
  refine AW.block (AW.loop (fun i : Nat => mkA [(0, enc l), (3, .int .i64 i)] []) (fun i => i ≤ l.length ∧ ∀ j, j < i → placeAt l j = true) (fun i => l.length - i) 0 ⟨by omega, fun k h => by omega⟩ ?_ (fun i hi => ?_))
  · refine Sub.of_lists ?_ ?_ ?_ ?_ <;> simp [subT, subO, onlyT, onlyO, isIn, look_cons, lookO_cons, lookO_nil, AV.only, AV.onlys, AO.only, onlys_map, onlys_append, e_only, e_int, e_bool]
  refine AW.seq (AW.seq ?_)
  refine AW.reg cd79_2 fun K hK => ?_
  simp only [g79_2, bR, Nat.reduceEqDiff, reduceIte, Int.reduceBNe, Int.reduceBEq]
  simp only [typR, useR, okR, bR, Nat.reduceEqDiff, reduceIte, Int.reduceBNe, Int.reduceBEq]
  refine .done (hK _ ?_); clear hK K; simp only [thenQ, blockQ]
  refine AW.ite ?_
  simp only [condQ, bR, Nat.reduceEqDiff, reduceIte, Int.reduceBNe, Int.reduceBEq]
  refine ⟨fun h => ?_, fun h => ?_⟩
  case refine_2.refine_2 =>
    have hge : i = l.length := by simp at h; omega
    subst hge
    refine AW.exit ?_; simp only [thenQ, blockQ, reduceIte, Nat.reduceEqDiff]
    refine AW.seq (AW.reg cd79_6 fun K hK => ?_)
    simp only [g79_6, bR, Nat.reduceEqDiff, reduceIte, Int.reduceBNe, Int.reduceBEq]
    refine .done (hK _ ?_); clear hK K; simp only [thenQ, blockQ]
    refine AW.ret ?_
    simp only [blockQ, thenQ, bR, Nat.reduceEqDiff, reduceIte, Int.reduceBNe, Int.reduceBEq]
    rw [okPlaces, all_true hi.2]
  have hlt : i < l.length := by simpa using h
  have bad : placeAt l i = false → okPlaces l = false := fun h => all_false i hlt h
  refine AW.skip ?_; simp only [thenQ, blockQ, reduceIte, Nat.reduceEqDiff]
  refine AW.seq (AW.block ?_)
  refine AW.seq (AW.reg cd79_3 fun K hK => ?_)
  simp only [g79_3, bR, Nat.reduceEqDiff, reduceIte, Int.reduceBNe, Int.reduceBEq]
  simp only [typR, useR, okR, isE_getD hlt, bR, Nat.reduceEqDiff, reduceIte, Int.reduceBNe, Int.reduceBEq]
  refine .flat _ (F94' (l.getD i 0) 0 5) rfl ?_
  generalize hr : inR 0 5 (l.getD i 0) = br
  cases br
  · simp only [typR, useR, okR, bR, Nat.reduceEqDiff, reduceIte, Int.reduceBNe, Int.reduceBEq]
    refine .done (hK _ ?_); clear hK K; simp only [thenQ, blockQ]
    refine AW.ite ?_
    simp only [condQ, bR, Nat.reduceEqDiff, reduceIte, Int.reduceBNe, Int.reduceBEq]
    refine ⟨fun h => ?_, fun h => ?_⟩
    · refine AW.seq (AW.reg cd79_4 fun K hK => ?_)
      simp only [g79_4, bR, Nat.reduceEqDiff, reduceIte, Int.reduceBNe, Int.reduceBEq]
      refine .done (hK _ ?_); clear hK K; simp only [thenQ, blockQ]
      refine AW.ret ?_
      simp only [blockQ, thenQ, bR, Nat.reduceEqDiff, reduceIte, Int.reduceBNe, Int.reduceBEq]
      rw [bad (by simp only [placeAt, hr, Bool.false_and])]
    · cases h
  simp only [typR, useR, okR, bR, Nat.reduceEqDiff, reduceIte, Int.reduceBNe, Int.reduceBEq]
  generalize hz : decide (0 < (i : Int)) = bz
  cases bz
  · have hz' : i = 0 := by simp at hz; omega
    simp only [typR, useR, okR, bR, Nat.reduceEqDiff, reduceIte, Int.reduceBNe, Int.reduceBEq]
    refine .done (hK _ ?_); clear hK K; simp only [thenQ, blockQ]
    refine AW.ite ?_
    simp only [condQ, bR, Nat.reduceEqDiff, reduceIte, Int.reduceBNe, Int.reduceBEq]
    refine ⟨fun h => ?_, fun h => ?_⟩
    · cases h
    refine AW.skip ?_; simp only [thenQ, blockQ, reduceIte, Nat.reduceEqDiff]
    refine AW.reg cd79_5 fun K hK => ?_
    simp only [g79_5, bR, Nat.reduceEqDiff, reduceIte, Int.reduceBNe, Int.reduceBEq]
    refine .done (hK _ ?_); clear hK K; simp only [thenQ, blockQ]
    refine ⟨i + 1, ⟨by omega, fun k hk' => ?_⟩, by omega, ?_⟩
    · by_cases hki : k = i
      · rw [hki, placeAt, hr]; simp [hz']
      · exact hi.2 k (by omega)
    · rw [wrap_id _ (by omega) (by omega)]
      refine Sub.of_lists ?_ ?_ ?_ ?_ <;> simp [subT, subO, onlyT, onlyO, isIn, look_cons, lookO_cons, lookO_nil, AV.only, AV.onlys, AO.only, onlys_map, onlys_append, e_only, e_int, e_bool]
  · have hpos : 0 < i := by simpa using hz
    have hpl : i - 1 < l.length := by omega
    have hpred : IntKind.i64.wrap ((i : Int) - 1) = ((i - 1 : Nat) : Int) := by rw [wrap_id _ (by omega) (by omega)]; omega
    simp only [typR, useR, okR, hpred, isE_getD hpl, isE_getD hlt, bR, Nat.reduceEqDiff, reduceIte, Int.reduceBNe, Int.reduceBEq]
    refine .done (hK _ ?_); clear hK K; simp only [thenQ, blockQ]
    refine AW.ite ?_
    simp only [condQ, bR, Nat.reduceEqDiff, reduceIte, Int.reduceBNe, Int.reduceBEq]
    refine ⟨fun h => ?_, fun h => ?_⟩
    · refine AW.seq (AW.reg cd79_4 fun K hK => ?_)
      simp only [g79_4, bR, Nat.reduceEqDiff, reduceIte, Int.reduceBNe, Int.reduceBEq]
      refine .done (hK _ ?_); clear hK K; simp only [thenQ, blockQ]
      refine AW.ret ?_
      simp only [blockQ, thenQ, bR, Nat.reduceEqDiff, reduceIte, Int.reduceBNe, Int.reduceBEq]
      have : (i == 0 || decide (l.getD (i - 1) 0 < l.getD i 0)) = false := by
        have h1 : l.getD i 0 ≤ l.getD (i - 1) 0 := of_decide_eq_true h
        have h2 : ¬ (l.getD (i - 1) 0 < l.getD i 0) := by omega
        have h3 : ¬ i = 0 := by omega
        simp only [decide_eq_false h2, Bool.or_false, beq_eq_false_iff_ne, ne_eq, h3, not_false_eq_true]
      rw [bad (by simp only [placeAt, this, Bool.and_false])]
    have hprev : (i == 0 || decide (l.getD (i - 1) 0 < l.getD i 0)) = true := by
      have h1 : ¬ (l.getD i 0 ≤ l.getD (i - 1) 0) := of_decide_eq_false h
      have h2 : l.getD (i - 1) 0 < l.getD i 0 := by omega
      simp only [decide_eq_true h2, Bool.or_true]
    refine AW.skip ?_; simp only [thenQ, blockQ, reduceIte, Nat.reduceEqDiff]
    refine AW.reg cd79_5 fun K hK => ?_
    simp only [g79_5, bR, Nat.reduceEqDiff, reduceIte, Int.reduceBNe, Int.reduceBEq]
    refine .done (hK _ ?_); clear hK K; simp only [thenQ, blockQ]
    refine ⟨i + 1, ⟨by omega, fun k hk' => ?_⟩, by omega, ?_⟩
    · by_cases hki : k = i
      · rw [hki, placeAt, hr, hprev]; rfl
      · exact hi.2 k (by omega)
    · rw [wrap_id _ (by omega) (by omega)]
      refine Sub.of_lists ?_ ?_ ?_ ?_ <;> simp [subT, subO, onlyT, onlyO, isIn, look_cons, lookO_cons, lookO_nil, AV.only, AV.onlys, AO.only, onlys_map, onlys_append, e_only, e_int, e_bool]

end Go.Proofs.Ytkjkbpgdpnapfaa

/-
  FUNCTIONS OF THE REFERENCE BY CONTRACT: chosen, Ahead.
-/
namespace Go.Proofs.Ytkjkbpgdpnapfaa
open Go Go.Abs
open Go.Abs.Enc (enc)

theorem F68 (w : Int) : Ctr Try.prog 68 [enc w] (enc (members w 6)) := by
  refine Ctr.mk' Try.func68 ca68 cc68 cr68 (Nat.le_of_ble_eq_true rfl) (fun hwf W0 D0 E1 => ?_)
  simp only [c68, r68, idx, Nat.zero_add, Nat.reduceAdd]
  refine AW.seq (AW.reg cd68_0 fun K hK => ?_)
  simp only [g68_0, bR, Nat.reduceEqDiff, reduceIte, Int.reduceBNe, Int.reduceBEq]
  refine .done (hK _ ?_); clear hK K; simp only [thenQ, blockQ]
  refine AW.seq (AW.reg cd68_1 fun K hK => ?_)
  simp only [g68_1, bR, Nat.reduceEqDiff, reduceIte, Int.reduceBNe, Int.reduceBEq]
  refine .done (hK _ ?_); clear hK K; simp only [thenQ, blockQ]
  refine AW.seq (AW.seq ?_)
  refine AW.reg cd68_2 fun K hK => ?_
  simp only [g68_2, bR, Nat.reduceEqDiff, reduceIte, Int.reduceBNe, Int.reduceBEq]
  refine .done (hK _ ?_); clear hK K; simp only [thenQ, blockQ]
  refine AW.block (AW.loop (fun i : Nat => mkA [(0, .int .i64 w), (2, .nils 1), (3, .own 3 (members w i).length), (4, .int .i64 i)] [(3, .row 3 1 ((members w i).map enc))]) (fun i => i ≤ 6) (fun i => 6 - i) 0 (by omega) ?_ (fun i hi => ?_))
  · refine Sub.adoptL 3 3 3 1 1 ?_ ?_ ?_
    · simp only [absR, Nat.reduceEqDiff, reduceIte]
    · simp only [absR]
    · simp only [members, List.map_nil, List.length_nil]
      refine Sub.of_lists ?_ ?_ ?_ ?_ <;> simp [subT, subO, onlyT, onlyO, isIn, look_cons, lookO_cons, lookO_nil, AV.only, AV.onlys, AO.only, onlys_map, onlys_append, e_only, e_int, e_bool]
  · refine AW.seq (AW.seq ?_)
    refine AW.reg cd68_3 fun K hK => ?_
    simp only [g68_3, bR, Nat.reduceEqDiff, reduceIte, Int.reduceBNe, Int.reduceBEq]
    refine .done (hK _ ?_); clear hK K; simp only [thenQ, blockQ]
    refine AW.ite ?_
    simp only [condQ, bR, Nat.reduceEqDiff, reduceIte, Int.reduceBNe, Int.reduceBEq]
    refine ⟨fun h => ?_, fun h => ?_⟩
    · have hlt : i < 6 := by simp at h; omega
      have hml := members_le w i
      refine AW.skip ?_; simp only [thenQ, blockQ, reduceIte, Nat.reduceEqDiff]
      refine AW.seq (AW.block ?_)
      refine AW.seq (AW.reg cd68_4 fun K hK => ?_)
      simp only [g68_4, bR, Nat.reduceEqDiff, reduceIte, Int.reduceBNe, Int.reduceBEq]
      refine .done (hK _ ?_); clear hK K; simp only [thenQ, blockQ]
      refine AW.ite ?_
      simp only [condQ, bR, Nat.reduceEqDiff, reduceIte, Int.reduceBNe, Int.reduceBEq]
      refine ⟨fun h => ?_, fun h => ?_⟩
      · have hb : bit w i = true := h
        refine AW.reg cd68_5 fun K hK => ?_
        simp only [g68_5, bR, Nat.reduceEqDiff, reduceIte, Int.reduceBNe, Int.reduceBEq]
        rw [appR3_enc 3 1 8 3 rfl rfl (by simp) (by simp [maxLen]; omega) (by simp; omega)]
        simp only [bR, Nat.reduceEqDiff, reduceIte, Int.reduceBNe, Int.reduceBEq]
        refine .done (hK _ ?_); clear hK K; simp only [thenQ, blockQ]
        refine AW.reg cd68_6 fun K hK => ?_
        simp only [g68_6, bR, Nat.reduceEqDiff, reduceIte, Int.reduceBNe, Int.reduceBEq]
        refine .done (hK _ ?_); clear hK K; simp only [thenQ, blockQ]
        refine ⟨i + 1, by omega, by omega, ?_⟩
        rw [wrap_id _ (by omega) (by omega)]
        simp only [members, hb, reduceIte]
        refine Sub.of_lists ?_ ?_ ?_ ?_ <;> simp [subT, subO, onlyT, onlyO, isIn, look_cons, lookO_cons, lookO_nil, AV.only, AV.onlys, AO.only, onlys_map, onlys_append, e_only, e_int, e_bool]
      · have hb : bit w i = false := h
        refine AW.skip ?_; simp only [thenQ, blockQ, reduceIte, Nat.reduceEqDiff]
        refine AW.reg cd68_6 fun K hK => ?_
        simp only [g68_6, bR, Nat.reduceEqDiff, reduceIte, Int.reduceBNe, Int.reduceBEq]
        refine .done (hK _ ?_); clear hK K; simp only [thenQ, blockQ]
        refine ⟨i + 1, by omega, by omega, ?_⟩
        rw [wrap_id _ (by omega) (by omega)]
        simp only [members, hb, reduceIte, Bool.false_eq_true, List.append_nil]
        refine Sub.of_lists ?_ ?_ ?_ ?_ <;> simp [subT, subO, onlyT, onlyO, isIn, look_cons, lookO_cons, lookO_nil, AV.only, AV.onlys, AO.only, onlys_map, onlys_append, e_only, e_int, e_bool]
    · have hge : i = 6 := by simp at h; omega
      subst hge
      refine AW.exit ?_; simp only [thenQ, blockQ, reduceIte, Nat.reduceEqDiff]
      refine AW.seq (AW.reg cd68_7 fun K hK => ?_)
      simp only [g68_7, bR, Nat.reduceEqDiff, reduceIte, Int.reduceBNe, Int.reduceBEq]
      refine .done (hK _ ?_); clear hK K; simp only [thenQ, blockQ]
      refine AW.ret ?_
      simp only [blockQ, thenQ, bR, Nat.reduceEqDiff, reduceIte, Int.reduceBNe, Int.reduceBEq]

/-- The order of lists of places. -/
def ahead : List Int → List Int → Bool
  | [], [] => false
  | [], _ :: _ => true
  | _ :: _, [] => false
  | a :: xs, b :: ys => if a = b then ahead xs ys else decide (a < b)

theorem ahead_drop (a b : List Int) (i : Nat) (ha : i < a.length) (hb : i < b.length) : ahead (a.drop i) (b.drop i) = if a.getD i 0 = b.getD i 0 then ahead (a.drop (i + 1)) (b.drop (i + 1)) else decide (a.getD i 0 < b.getD i 0) := by
  rw [List.drop_eq_getElem_cons ha, List.drop_eq_getElem_cons hb]
  simp [ahead, List.getD_eq_getElem?_getD, ha, hb]
theorem ahead_end (a b : List Int) (i : Nat) (ha : i ≤ a.length) (hb : i ≤ b.length) (h : a.length ≤ i ∨ b.length ≤ i) : ahead (a.drop i) (b.drop i) = decide (a.length < b.length) := by
  rcases h with h | h
  · have : i = a.length := by omega
    subst this
    rw [List.drop_length]
    cases hd : b.drop a.length with
    | nil => have := List.drop_eq_nil_iff.1 hd; simp [ahead]; omega
    | cons x xs =>
      have : ¬ b.length ≤ a.length := fun h => by rw [List.drop_eq_nil_iff.2 h] at hd; cases hd
      simp [ahead]; omega
  · have : i = b.length := by omega
    subst this
    rw [List.drop_length]
    have h2 : ¬ a.length < b.length := by omega
    cases hd : a.drop b.length <;> simp [ahead, h2]

theorem F70 (a b : List Int) : Ctr Try.prog 70 [enc a, enc b] (enc (ahead a b)) := by
  refine Ctr.mk' Try.func70 ca70 cc70 cr70 (Nat.le_of_ble_eq_true rfl) (fun hwf W0 D0 E1 => ?_)
  simp only [c70, r70, idx, Nat.zero_add, Nat.reduceAdd]
  have hlen : a.length ≤ maxLen := ((wf_list a).1 hwf.1).1
  simp only [maxLen] at hlen
  refine AW.seq (AW.reg cd70_0 fun K hK => ?_)
  simp only [g70_0, bR, Nat.reduceEqDiff, reduceIte, Int.reduceBNe, Int.reduceBEq]
  refine .done (hK _ ?_); clear hK K; simp only [thenQ, blockQ]
  refine AW.seq ?_
  refine AW.seq (AW.reg cd70_1 fun K hK => ?_)
  simp only [g70_1, bR, Nat.reduceEqDiff, reduceIte, Int.reduceBNe, Int.reduceBEq]
  refine .done (hK _ ?_); clear hK K; simp only [thenQ, blockQ]
  refine AW.block (AW.loop (fun i : Nat => mkA [(0, enc a), (1, enc b), (5, .int .i64 i)] []) (fun i => i ≤ a.length ∧ i ≤ b.length ∧ ahead a b = ahead (a.drop i) (b.drop i)) (fun i => a.length - i) 0 ⟨by omega, by omega, by simp⟩ ?_ (fun i hi => ?_))
  · refine Sub.of_lists ?_ ?_ ?_ ?_ <;> simp [subT, subO, onlyT, onlyO, isIn, look_cons, lookO_cons, lookO_nil, AV.only, AV.onlys, AO.only, onlys_map, onlys_append, e_only, e_int, e_bool]
  have fin : (a.length ≤ i ∨ b.length ≤ i) → ahead a b = decide (a.length < b.length) := fun h => by rw [hi.2.2, ahead_end a b i hi.1 hi.2.1 h]
  refine AW.seq (AW.seq ?_)
  refine AW.reg cd70_2 fun K hK => ?_
  simp only [g70_2, bR, Nat.reduceEqDiff, reduceIte, Int.reduceBNe, Int.reduceBEq]
  simp only [typR, useR, okR, bR, Nat.reduceEqDiff, reduceIte, Int.reduceBNe, Int.reduceBEq]
  generalize hz : decide ((i : Int) < a.length) = bz
  cases bz
  · have hge : a.length ≤ i := by simp at hz; omega
    simp only [typR, useR, okR, bR, Nat.reduceEqDiff, reduceIte, Int.reduceBNe, Int.reduceBEq]
    refine .done (hK _ ?_); clear hK K; simp only [thenQ, blockQ]
    refine AW.ite ?_
    simp only [condQ, bR, Nat.reduceEqDiff, reduceIte, Int.reduceBNe, Int.reduceBEq]
    refine ⟨fun h => ?_, fun h => ?_⟩
    · cases h
    refine AW.exit ?_; simp only [thenQ, blockQ, reduceIte, Nat.reduceEqDiff]
    refine AW.seq (AW.reg cd70_6 fun K hK => ?_)
    simp only [g70_6, bR, Nat.reduceEqDiff, reduceIte, Int.reduceBNe, Int.reduceBEq]
    simp only [useR, bR, Nat.reduceEqDiff, reduceIte, Int.reduceBNe, Int.reduceBEq]
    refine .done (hK _ ?_); clear hK K; simp only [thenQ, blockQ]
    refine AW.ret ?_
    simp only [blockQ, thenQ, bR, Nat.reduceEqDiff, reduceIte, Int.reduceBNe, Int.reduceBEq]
    rw [fin (.inl hge)]; simp
  have hla : i < a.length := by simpa using hz
  simp only [typR, useR, okR, bR, Nat.reduceEqDiff, reduceIte, Int.reduceBNe, Int.reduceBEq]
  refine .done (hK _ ?_); clear hK K; simp only [thenQ, blockQ]
  refine AW.ite ?_
  simp only [condQ, bR, Nat.reduceEqDiff, reduceIte, Int.reduceBNe, Int.reduceBEq]
  refine ⟨fun h => ?_, fun h => ?_⟩
  case refine_2.true.refine_2 =>
    have hge : b.length ≤ i := by simp at h; omega
    refine AW.exit ?_; simp only [thenQ, blockQ, reduceIte, Nat.reduceEqDiff]
    refine AW.seq (AW.reg cd70_6 fun K hK => ?_)
    simp only [g70_6, bR, Nat.reduceEqDiff, reduceIte, Int.reduceBNe, Int.reduceBEq]
    simp only [useR, bR, Nat.reduceEqDiff, reduceIte, Int.reduceBNe, Int.reduceBEq]
    refine .done (hK _ ?_); clear hK K; simp only [thenQ, blockQ]
    refine AW.ret ?_
    simp only [blockQ, thenQ, bR, Nat.reduceEqDiff, reduceIte, Int.reduceBNe, Int.reduceBEq]
    rw [fin (.inr hge)]; simp
  have hlb : i < b.length := by simpa using h
  have hstep := hi.2.2.trans (ahead_drop a b i hla hlb)
  refine AW.skip ?_; simp only [thenQ, blockQ, reduceIte, Nat.reduceEqDiff]
  refine AW.seq (AW.block ?_)
  refine AW.seq (AW.reg cd70_3 fun K hK => ?_)
  simp only [g70_3, bR, Nat.reduceEqDiff, reduceIte, Int.reduceBNe, Int.reduceBEq]
  simp only [isE_getD hla, isE_getD hlb, okR, bR, Nat.reduceEqDiff, reduceIte, Int.reduceBNe, Int.reduceBEq]
  refine .done (hK _ ?_); clear hK K; simp only [thenQ, blockQ]
  refine AW.ite ?_
  simp only [condQ, bR, Nat.reduceEqDiff, reduceIte, Int.reduceBNe, Int.reduceBEq]
  refine ⟨fun h => ?_, fun h => ?_⟩
  · have hne : ¬ a.getD i 0 = b.getD i 0 := by simpa using h
    rw [if_neg hne] at hstep
    refine AW.seq (AW.reg cd70_4 fun K hK => ?_)
    simp only [g70_4, bR, Nat.reduceEqDiff, reduceIte, Int.reduceBNe, Int.reduceBEq]
    simp only [isE_getD hla, isE_getD hlb, okR, bR, Nat.reduceEqDiff, reduceIte, Int.reduceBNe, Int.reduceBEq]
    refine .done (hK _ ?_); clear hK K; simp only [thenQ, blockQ]
    refine AW.ret ?_
    simp only [blockQ, thenQ, bR, Nat.reduceEqDiff, reduceIte, Int.reduceBNe, Int.reduceBEq]
    rw [hstep]
  have heq : a.getD i 0 = b.getD i 0 := by simpa using h
  rw [if_pos heq] at hstep
  refine AW.skip ?_; simp only [thenQ, blockQ, reduceIte, Nat.reduceEqDiff]
  refine AW.reg cd70_5 fun K hK => ?_
  simp only [g70_5, bR, Nat.reduceEqDiff, reduceIte, Int.reduceBNe, Int.reduceBEq]
  refine .done (hK _ ?_); clear hK K; simp only [thenQ, blockQ]
  refine ⟨i + 1, ⟨by omega, by omega, hstep⟩, by omega, ?_⟩
  rw [wrap_id _ (by omega) (by omega)]
  refine Sub.of_lists ?_ ?_ ?_ ?_ <;> simp [subT, subO, onlyT, onlyO, isIn, look_cons, lookO_cons, lookO_nil, AV.only, AV.onlys, AO.only, onlys_map, onlys_append, e_only, e_int, e_bool]

end Go.Proofs.Ytkjkbpgdpnapfaa

/-
  EQUALITY OF ARRAYS AND OF GIVEN MARKS, AS THE PROGRAM TELLS IT; by contract: SameMarks (under way).
-/
namespace Go.Proofs.Ytkjkbpgdpnapfaa
open Go Go.Abs
open Go.Abs.Enc (enc)

theorem eqE_int (a b : Int) : eqE (.i .i64) (enc a) (enc b) = some (a == b) := by simp [e_int, eqE]
theorem foldr_ints : ∀ (x y : List Int), x.length = y.length → ((x.map (enc (α := Int))).zip (y.map (enc (α := Int)))).foldr (fun p acc => andO (eqE (.i .i64) p.1 p.2) acc) (some true) = some (decide (x = y))
  | [], [], _ => by simp
  | a :: x, b :: y, h => by
    have ih := foldr_ints x y (by simpa using h)
    rw [List.map_cons, List.map_cons, List.zip_cons_cons, List.foldr_cons, ih, eqE_int]
    by_cases hab : a = b <;> by_cases hxy : x = y <;> simp [andO, hab, hxy]
theorem eqE_arr {n : Nat} (x y : Arr n Int) : eqE (.ar n (.i .i64)) (enc x) (enc y) = some (decide (x.l = y.l)) := by
  change eqE (.ar n (.i .i64)) (.agg (x.l.map enc)) (.agg (y.l.map enc)) = _
  rw [eqE, if_pos ⟨by simp [x.h], by simp [y.h]⟩]
  exact foldr_ints x.l y.l (by rw [x.h, y.h])
theorem eqE_given (x y : Given) : eqE (.st [.i .i64, .ar 6 (.i .i64)]) (enc x) (enc y) = some (decide (x.owner = y.owner) && decide (x.mark.l = y.mark.l)) := by
  change eqE _ (.agg [enc x.owner, enc x.mark]) (.agg [enc y.owner, enc y.mark]) = _
  rw [eqE, eqEs, eqEs, eqEs, eqE_arr, eqE_int]
  by_cases h : x.owner = y.owner <;> by_cases h2 : x.mark.l = y.mark.l <;> simp [h, h2, andO]

end Go.Proofs.Ytkjkbpgdpnapfaa

/-
  FUNCTIONS OF THE REFERENCE BY CONTRACT: SameMarks.
-/
namespace Go.Proofs.Ytkjkbpgdpnapfaa
open Go Go.Abs
open Go.Abs.Enc (enc)

def sameG (x y : Given) : Bool := decide (x.owner = y.owner) && decide (x.mark.l = y.mark.l)
def sameM (a b : Marks) : Bool := decide (a.wear.l = b.wear.l) && (decide (a.fls = b.fls) && (decide (a.given.length = b.given.length) && (List.range a.given.length).all fun i => sameG (gv a i) (gv b i)))

theorem F63 (a b : Marks) : Ctr Try.prog 63 [enc a, enc b] (enc (sameM a b)) := by
  refine Ctr.mk' Try.func63 ca63 cc63 cr63 (Nat.le_of_ble_eq_true rfl) (fun hwf W0 D0 E1 => ?_)
  simp only [c63, r63, idx, Nat.zero_add, Nat.reduceAdd]
  have hlen : a.given.length ≤ maxLen := ((wf_list a.given).1 hwf.1.2.2.1).1
  simp only [maxLen] at hlen
  refine AW.seq (AW.reg cd63_0 fun K hK => ?_)
  simp only [g63_0, bR, Nat.reduceEqDiff, reduceIte, Int.reduceBNe, Int.reduceBEq]
  refine .done (hK _ ?_); clear hK K; simp only [thenQ, blockQ]
  refine AW.seq (AW.seq ?_)
  refine AW.reg cd63_1 fun K hK => ?_
  simp only [g63_1, bR, Nat.reduceEqDiff, reduceIte, Int.reduceBNe, Int.reduceBEq]
  simp only [typR, useR, okR, eqE_arr, Option.map_some, reduceIte, bR, Nat.reduceEqDiff, reduceIte, Int.reduceBNe, Int.reduceBEq]
  generalize hw : decide (a.wear.l = b.wear.l) = bw
  cases bw
  · simp only [typR, useR, okR, bR, Nat.reduceEqDiff, reduceIte, Int.reduceBNe, Int.reduceBEq]
    refine .done (hK _ ?_); clear hK K; simp only [thenQ, blockQ]
    refine AW.ite ?_
    simp only [condQ, bR, Nat.reduceEqDiff, reduceIte, Int.reduceBNe, Int.reduceBEq]
    refine ⟨fun h => ?_, fun h => ?_⟩
    · refine AW.seq (AW.reg cd63_2 fun K hK => ?_)
      simp only [g63_2, bR, Nat.reduceEqDiff, reduceIte, Int.reduceBNe, Int.reduceBEq]
      refine .done (hK _ ?_); clear hK K; simp only [thenQ, blockQ]
      refine AW.ret ?_
      simp only [blockQ, thenQ, bR, Nat.reduceEqDiff, reduceIte, Int.reduceBNe, Int.reduceBEq]
      simp [sameM, hw]
    · cases h
  simp only [typR, useR, okR, bR, Nat.reduceEqDiff, reduceIte, Int.reduceBNe, Int.reduceBEq]
  generalize hf : (a.fls != b.fls) = bf
  cases bf
  case true =>
    simp only [typR, useR, okR, bR, Nat.reduceEqDiff, reduceIte, Int.reduceBNe, Int.reduceBEq]
    refine .done (hK _ ?_); clear hK K; simp only [thenQ, blockQ]
    refine AW.ite ?_
    simp only [condQ, bR, Nat.reduceEqDiff, reduceIte, Int.reduceBNe, Int.reduceBEq]
    refine ⟨fun h => ?_, fun h => ?_⟩
    · refine AW.seq (AW.reg cd63_2 fun K hK => ?_)
      simp only [g63_2, bR, Nat.reduceEqDiff, reduceIte, Int.reduceBNe, Int.reduceBEq]
      refine .done (hK _ ?_); clear hK K; simp only [thenQ, blockQ]
      refine AW.ret ?_
      simp only [blockQ, thenQ, bR, Nat.reduceEqDiff, reduceIte, Int.reduceBNe, Int.reduceBEq]
      have : a.fls ≠ b.fls := by simpa using hf
      simp [sameM, this]
    · cases h
  have hf' : a.fls = b.fls := by simpa using hf
  simp only [typR, useR, okR, bR, Nat.reduceEqDiff, reduceIte, Int.reduceBNe, Int.reduceBEq]
  refine .done (hK _ ?_); clear hK K; simp only [thenQ, blockQ]
  refine AW.ite ?_
  simp only [condQ, bR, Nat.reduceEqDiff, reduceIte, Int.reduceBNe, Int.reduceBEq]
  refine ⟨fun h => ?_, fun h => ?_⟩
  · refine AW.seq (AW.reg cd63_2 fun K hK => ?_)
    simp only [g63_2, bR, Nat.reduceEqDiff, reduceIte, Int.reduceBNe, Int.reduceBEq]
    refine .done (hK _ ?_); clear hK K; simp only [thenQ, blockQ]
    refine AW.ret ?_
    simp only [blockQ, thenQ, bR, Nat.reduceEqDiff, reduceIte, Int.reduceBNe, Int.reduceBEq]
    have : a.given.length ≠ b.given.length := by simp at h; omega
    simp [sameM, this]
  have hl : a.given.length = b.given.length := by simp at h; omega
  refine AW.skip ?_; simp only [thenQ, blockQ, reduceIte, Nat.reduceEqDiff]
  refine AW.seq ?_
  refine AW.seq (AW.reg cd63_3 fun K hK => ?_)
  simp only [g63_3, bR, Nat.reduceEqDiff, reduceIte, Int.reduceBNe, Int.reduceBEq]
  refine .done (hK _ ?_); clear hK K; simp only [thenQ, blockQ]
  refine AW.block (AW.loop (fun i : Nat => mkA [(2, .ptr 2 []), (3, .ptr 3 []), (5, .int .i64 i)] [(2, .box (enc a)), (3, .box (enc b))]) (fun i => i ≤ a.given.length ∧ ∀ j, j < i → sameG (gv a j) (gv b j) = true) (fun i => a.given.length - i) 0 ⟨by omega, fun k h => by omega⟩ ?_ (fun i hi => ?_))
  · refine Sub.of_lists ?_ ?_ ?_ ?_ <;> simp [subT, subO, onlyT, onlyO, isIn, look_cons, lookO_cons, lookO_nil, AV.only, AV.onlys, AO.only, onlys_map, onlys_append, e_only, e_int, e_bool]
  refine AW.seq (AW.seq ?_)
  refine AW.reg cd63_4 fun K hK => ?_
  simp only [g63_4, bR, Nat.reduceEqDiff, reduceIte, Int.reduceBNe, Int.reduceBEq]
  simp only [typR, useR, okR, bR, Nat.reduceEqDiff, reduceIte, Int.reduceBNe, Int.reduceBEq]
  refine .done (hK _ ?_); clear hK K; simp only [thenQ, blockQ]
  refine AW.ite ?_
  simp only [condQ, bR, Nat.reduceEqDiff, reduceIte, Int.reduceBNe, Int.reduceBEq]
  refine ⟨fun h => ?_, fun h => ?_⟩
  · have hlt : i < a.given.length := by simpa using h
    have hlb : i < b.given.length := by omega
    refine AW.skip ?_; simp only [thenQ, blockQ, reduceIte, Nat.reduceEqDiff]
    refine AW.seq (AW.block ?_)
    refine AW.seq (AW.reg cd63_5 fun K hK => ?_)
    simp only [g63_5, bR, Nat.reduceEqDiff, reduceIte, Int.reduceBNe, Int.reduceBEq]
    simp only [typR, useR, okR, isE_gv hlt, isE_gv hlb, eqE_given, Option.map_some, reduceIte, bR, Nat.reduceEqDiff, reduceIte, Int.reduceBNe, Int.reduceBEq]
    refine .done (hK _ ?_); clear hK K; simp only [thenQ, blockQ]
    refine AW.ite ?_
    simp only [condQ, bR, Nat.reduceEqDiff, reduceIte, Int.reduceBNe, Int.reduceBEq]
    refine ⟨fun h => ?_, fun h => ?_⟩
    · refine AW.seq (AW.reg cd63_6 fun K hK => ?_)
      simp only [g63_6, bR, Nat.reduceEqDiff, reduceIte, Int.reduceBNe, Int.reduceBEq]
      refine .done (hK _ ?_); clear hK K; simp only [thenQ, blockQ]
      refine AW.ret ?_
      simp only [blockQ, thenQ, bR, Nat.reduceEqDiff, reduceIte, Int.reduceBNe, Int.reduceBEq]
      have hs : sameG (gv a i) (gv b i) = false := by
        have h' : (!sameG (gv a i) (gv b i)) = true := h
        simpa using h'
      have : (List.range a.given.length).all (fun i => sameG (gv a i) (gv b i)) = false := all_false i hlt hs
      simp only [sameM, this, Bool.and_false]
    have hs : sameG (gv a i) (gv b i) = true := by
      have h' : (!sameG (gv a i) (gv b i)) = false := h
      simpa using h'
    refine AW.skip ?_; simp only [thenQ, blockQ, reduceIte, Nat.reduceEqDiff]
    refine AW.reg cd63_7 fun K hK => ?_
    simp only [g63_7, bR, Nat.reduceEqDiff, reduceIte, Int.reduceBNe, Int.reduceBEq]
    refine .done (hK _ ?_); clear hK K; simp only [thenQ, blockQ]
    refine ⟨i + 1, ⟨by omega, fun k hk' => ?_⟩, by omega, ?_⟩
    · by_cases hki : k = i
      · rw [hki]; exact hs
      · exact hi.2 k (by omega)
    · rw [wrap_id _ (by omega) (by omega)]
      refine Sub.of_lists ?_ ?_ ?_ ?_ <;> simp [subT, subO, onlyT, onlyO, isIn, look_cons, lookO_cons, lookO_nil, AV.only, AV.onlys, AO.only, onlys_map, onlys_append, e_only, e_int, e_bool]
  · have hge : i = a.given.length := by simp at h; omega
    subst hge
    refine AW.exit ?_; simp only [thenQ, blockQ, reduceIte, Nat.reduceEqDiff]
    refine AW.seq (AW.reg cd63_8 fun K hK => ?_)
    simp only [g63_8, bR, Nat.reduceEqDiff, reduceIte, Int.reduceBNe, Int.reduceBEq]
    refine .done (hK _ ?_); clear hK K; simp only [thenQ, blockQ]
    refine AW.ret ?_
    simp only [blockQ, thenQ, bR, Nat.reduceEqDiff, reduceIte, Int.reduceBNe, Int.reduceBEq]
    have : (List.range a.given.length).all (fun i => sameG (gv a i) (gv b i)) = true := all_true hi.2
    simp only [sameM, this, hw, decide_eq_true hf', decide_eq_true hl, Bool.and_self]

end Go.Proofs.Ytkjkbpgdpnapfaa

/-
  FUNCTIONS OF THE REFERENCE BY CONTRACT: Wears.
-/
namespace Go.Proofs.Ytkjkbpgdpnapfaa
open Go Go.Abs
open Go.Abs.Enc (enc)

def zero5 : Arr 5 Int := ⟨List.replicate 5 0, rfl⟩
theorem e_zero5 : AV.agg [.int .i64 0, .int .i64 0, .int .i64 0, .int .i64 0, .int .i64 0] = enc zero5 := rfl
def bor (a b : Int) : Int := IntKind.i64.wrap ((BitVec.ofInt IntKind.i64.bits a ||| BitVec.ofInt IntKind.i64.bits b).toNat : Int)
def wearAt (c : List Int) (k : Nat) (x : Arr 5 Int) : Arr 5 Int :=
  if at' c k % 12 < 5 then upd (upd x k (shl 1 k)) k (bor ((upd x k (shl 1 k)).g k) (shl 1 (at' c k % 12).toNat)) else upd x k (shl 1 k)
def wears (c : List Int) : Nat → Arr 5 Int
  | 0 => zero5
  | k + 1 => wearAt c k (wears c k)

theorem F34 (c : List Int) (hc : c.length ≤ 4611686018427387904) : Ctr Try.prog 34 [enc c] (enc (wears c 5)) := by
  refine Ctr.mk' Try.func34 ca34 cc34 cr34 (Nat.le_of_ble_eq_true rfl) (fun hwf W0 D0 E1 => ?_)
  simp only [c34, r34, idx, Nat.zero_add, Nat.reduceAdd]
  refine AW.seq (AW.reg cd34_0 fun K hK => ?_)
  simp only [g34_0, bR, Nat.reduceEqDiff, reduceIte, Int.reduceBNe, Int.reduceBEq]
  refine .done (hK _ ?_); clear hK K; simp only [thenQ, blockQ]
  refine AW.seq (AW.reg cd34_1 fun K hK => ?_)
  simp only [g34_1, bR, Nat.reduceEqDiff, reduceIte, Int.reduceBNe, Int.reduceBEq]
  simp only [e_zero5]
  refine .done (hK _ ?_); clear hK K; simp only [thenQ, blockQ]
  refine AW.seq (AW.seq ?_)
  refine AW.reg cd34_2 fun K hK => ?_
  simp only [g34_2, bR, Nat.reduceEqDiff, reduceIte, Int.reduceBNe, Int.reduceBEq]
  refine .done (hK _ ?_); clear hK K; simp only [thenQ, blockQ]
  refine AW.block (AW.loop (fun k : Nat => mkA [(0, enc c), (2, .ptr 2 []), (3, .ptr 3 []), (4, .int .i64 k)] [(2, .box (enc zero5)), (3, .box (enc (wears c k)))]) (fun k => k ≤ 5) (fun k => 5 - k) 0 (by omega) ?_ (fun k hk => ?_))
  · refine Sub.of_lists ?_ ?_ ?_ ?_ <;> simp [subT, subO, onlyT, onlyO, isIn, look_cons, lookO_cons, lookO_nil, AV.only, AV.onlys, AO.only, onlys_map, onlys_append, e_only, e_int, e_bool]
    all_goals rfl
  refine AW.seq (AW.seq ?_)
  refine AW.reg cd34_3 fun K hK => ?_
  simp only [g34_3, bR, Nat.reduceEqDiff, reduceIte, Int.reduceBNe, Int.reduceBEq]
  refine .done (hK _ ?_); clear hK K; simp only [thenQ, blockQ]
  refine AW.ite ?_
  simp only [condQ, bR, Nat.reduceEqDiff, reduceIte, Int.reduceBNe, Int.reduceBEq]
  refine ⟨fun h => ?_, fun h => ?_⟩
  · have hlt : k < 5 := by simp at h; omega
    refine AW.skip ?_; simp only [thenQ, blockQ, reduceIte, Nat.reduceEqDiff]
    refine AW.seq (AW.block ?_)
    refine AW.seq (AW.reg cd34_4 fun K hK => ?_)
    simp only [g34_4, bR, Nat.reduceEqDiff, reduceIte, Int.reduceBNe, Int.reduceBEq]
    simp only [useR, inB_nat 1 (wears c k) hlt rfl, atL_g (wears c k) hlt, stR3_g (wears c k) hlt, bR, Nat.reduceEqDiff, reduceIte, Int.reduceBNe, Int.reduceBEq]
    refine .done (hK _ ?_); clear hK K; simp only [thenQ, blockQ]
    refine AW.seq (AW.reg cd34_5 fun K hK => ?_)
    simp only [g34_5, bR, Nat.reduceEqDiff, reduceIte, Int.reduceBNe, Int.reduceBEq]
    simp only [e_fin, bR, Nat.reduceEqDiff, reduceIte, Int.reduceBNe, Int.reduceBEq]
    refine .flat _ (F25 c k hc) rfl ?_
    simp only [e_fin, bR, Nat.reduceEqDiff, reduceIte, Int.reduceBNe, Int.reduceBEq]
    refine .flat _ (F23 (at' c k) 12 (by omega) (by omega)) rfl ?_
    simp only [bR, Nat.reduceEqDiff, reduceIte, Int.reduceBNe, Int.reduceBEq]
    refine .done (hK _ ?_); clear hK K; simp only [thenQ, blockQ]
    refine AW.seq (AW.reg cd34_6 fun K hK => ?_)
    simp only [g34_6, bR, Nat.reduceEqDiff, reduceIte, Int.reduceBNe, Int.reduceBEq]
    refine .done (hK _ ?_); clear hK K; simp only [thenQ, blockQ]
    have h0 : 0 ≤ at' c k % 12 := Int.emod_nonneg _ (by omega)
    refine AW.ite ?_
    simp only [condQ, bR, Nat.reduceEqDiff, reduceIte, Int.reduceBNe, Int.reduceBEq]
    refine ⟨fun h => ?_, fun h => ?_⟩
    · have h5 : at' c k % 12 < 5 := by simpa using h
      have e1 : IntKind.i64.wrap (1 * 2 ^ min k IntKind.i64.bits) = shl 1 k := rfl
      refine AW.reg cd34_7 fun K hK => ?_
      simp only [g34_7, bR, Nat.reduceEqDiff, reduceIte, Int.reduceBNe, Int.reduceBEq]
      simp only [e1, useR, inB_nat 1 (upd (wears c k) k (shl 1 k)) hlt rfl, atL_g (upd (wears c k) k (shl 1 k)) hlt, h0, bR, Nat.reduceEqDiff, reduceIte, Int.reduceBNe, Int.reduceBEq]
      simp only [e1, useR, inB_nat 1 (upd (wears c k) k (shl 1 k)) hlt rfl, atL_g (upd (wears c k) k (shl 1 k)) hlt, stR3_g (upd (wears c k) k (shl 1 k)) hlt, h0, bR, Nat.reduceEqDiff, reduceIte, Int.reduceBNe, Int.reduceBEq]
      refine .done (hK _ ?_); clear hK K; simp only [thenQ, blockQ]
      refine AW.reg cd34_8 fun K hK => ?_
      simp only [g34_8, bR, Nat.reduceEqDiff, reduceIte, Int.reduceBNe, Int.reduceBEq]
      refine .done (hK _ ?_); clear hK K; simp only [thenQ, blockQ]
      refine ⟨k + 1, by omega, by omega, ?_⟩
      rw [wrap_id _ (by omega) (by omega)]
      simp only [wears, wearAt, if_pos h5]
      refine Sub.of_lists ?_ ?_ ?_ ?_ <;> simp [subT, subO, onlyT, onlyO, isIn, look_cons, lookO_cons, lookO_nil, AV.only, AV.onlys, AO.only, onlys_map, onlys_append, e_only, e_int, e_bool]
      all_goals simp [bor, shl]
    · have h5 : ¬ at' c k % 12 < 5 := by simpa using h
      refine AW.skip ?_; simp only [thenQ, blockQ, reduceIte, Nat.reduceEqDiff]
      refine AW.reg cd34_8 fun K hK => ?_
      simp only [g34_8, bR, Nat.reduceEqDiff, reduceIte, Int.reduceBNe, Int.reduceBEq]
      refine .done (hK _ ?_); clear hK K; simp only [thenQ, blockQ]
      refine ⟨k + 1, by omega, by omega, ?_⟩
      rw [wrap_id _ (by omega) (by omega)]
      simp only [wears, wearAt, if_neg h5]
      refine Sub.of_lists ?_ ?_ ?_ ?_ <;> simp [subT, subO, onlyT, onlyO, isIn, look_cons, lookO_cons, lookO_nil, AV.only, AV.onlys, AO.only, onlys_map, onlys_append, e_only, e_int, e_bool]
      all_goals simp [bor, shl]
  · have hge : k = 5 := by simp at h; omega
    subst hge
    refine AW.exit ?_; simp only [thenQ, blockQ, reduceIte, Nat.reduceEqDiff]
    refine AW.seq (AW.reg cd34_9 fun K hK => ?_)
    simp only [g34_9, bR, Nat.reduceEqDiff, reduceIte, Int.reduceBNe, Int.reduceBEq]
    simp only [typR, useR, bR, Nat.reduceEqDiff, reduceIte, Int.reduceBNe, Int.reduceBEq]
    rw [stR3_ok (e_isVal _) (by rw [e_okS]; rfl) ((e_sh _).trans (e_sh _).symm)]
    simp only [bR, Nat.reduceEqDiff, reduceIte, Int.reduceBNe, Int.reduceBEq]
    refine .done (hK _ ?_); clear hK K; simp only [thenQ, blockQ]
    refine AW.ret ?_
    simp only [blockQ, thenQ, bR, Nat.reduceEqDiff, reduceIte, Int.reduceBNe, Int.reduceBEq]
    simp only [typR, e_fin, bR, Nat.reduceEqDiff, reduceIte, Int.reduceBNe, Int.reduceBEq]

end Go.Proofs.Ytkjkbpgdpnapfaa

/-
  FUNCTIONS OF THE REFERENCE BY CONTRACT: Possible.
-/
namespace Go.Proofs.Ytkjkbpgdpnapfaa
open Go Go.Abs
open Go.Abs.Enc (enc)

def possR (m : Marks) (a r : Arr 6 Int) : Bool × Int := if okM m then (if okMark a then (if okReading r then (decide (costOf m.wear a r ≤ m.fls), 0) else (false, 12)) else (false, 10)) else (false, 13)

theorem F52 (m : Marks) (a r : Arr 6 Int) : Ctr Try.prog 52 [enc m, enc a, enc r] (.tuple [enc (possR m a r).1, enc (possR m a r).2]) := by
  refine Ctr.mk' Try.func52 ca52 cc52 cr52 (Nat.le_of_ble_eq_true rfl) (fun hwf W0 D0 E1 => ?_)
  simp only [c52, r52, idx, Nat.zero_add, Nat.reduceAdd]
  refine AW.seq (AW.reg cd52_0 fun K hK => ?_)
  simp only [g52_0, bR, Nat.reduceEqDiff, reduceIte, Int.reduceBNe, Int.reduceBEq]
  refine .done (hK _ ?_); clear hK K; simp only [thenQ, blockQ]
  refine AW.seq (AW.seq ?_)
  refine AW.reg cd52_1 fun K hK => ?_
  simp only [g52_1, bR, Nat.reduceEqDiff, reduceIte, Int.reduceBNe, Int.reduceBEq]
  simp only [typR, useR, okR, e_fin, bR, Nat.reduceEqDiff, reduceIte, Int.reduceBNe, Int.reduceBEq]
  refine .flat _ (F48 m) rfl ?_
  generalize hm : okM m = bm
  cases bm
  · simp only [typR, useR, okR, bR, Nat.reduceEqDiff, reduceIte, Int.reduceBNe, Int.reduceBEq]
    refine .done (hK _ ?_); clear hK K; simp only [thenQ, blockQ]
    refine AW.ite ?_
    simp only [condQ, bR, Nat.reduceEqDiff, reduceIte, Int.reduceBNe, Int.reduceBEq]
    refine ⟨fun h => ?_, fun h => ?_⟩
    · refine AW.seq (AW.reg cd52_2 fun K hK => ?_)
      simp only [g52_2, bR, Nat.reduceEqDiff, reduceIte, Int.reduceBNe, Int.reduceBEq]
      refine .done (hK _ ?_); clear hK K; simp only [thenQ, blockQ]
      refine AW.ret ?_
      simp only [blockQ, thenQ, bR, Nat.reduceEqDiff, reduceIte, Int.reduceBNe, Int.reduceBEq]
      simp [possR, hm]
    · cases h
  simp only [typR, useR, okR, bR, Nat.reduceEqDiff, reduceIte, Int.reduceBNe, Int.reduceBEq]
  refine .done (hK _ ?_); clear hK K; simp only [thenQ, blockQ]
  refine AW.ite ?_
  simp only [condQ, bR, Nat.reduceEqDiff, reduceIte, Int.reduceBNe, Int.reduceBEq]
  refine ⟨fun h => ?_, fun h => ?_⟩
  · cases h
  refine AW.skip ?_; simp only [thenQ, blockQ, reduceIte, Nat.reduceEqDiff]
  refine AW.seq (AW.seq ?_)
  refine AW.reg cd52_3 fun K hK => ?_
  simp only [g52_3, bR, Nat.reduceEqDiff, reduceIte, Int.reduceBNe, Int.reduceBEq]
  simp only [typR, useR, okR, e_fin, bR, Nat.reduceEqDiff, reduceIte, Int.reduceBNe, Int.reduceBEq]
  refine .flat _ (F42' a) rfl ?_
  generalize ha : okMark a = ba
  cases ba
  · simp only [typR, useR, okR, bR, Nat.reduceEqDiff, reduceIte, Int.reduceBNe, Int.reduceBEq]
    refine .done (hK _ ?_); clear hK K; simp only [thenQ, blockQ]
    refine AW.ite ?_
    simp only [condQ, bR, Nat.reduceEqDiff, reduceIte, Int.reduceBNe, Int.reduceBEq]
    refine ⟨fun h => ?_, fun h => ?_⟩
    · refine AW.seq (AW.reg cd52_4 fun K hK => ?_)
      simp only [g52_4, bR, Nat.reduceEqDiff, reduceIte, Int.reduceBNe, Int.reduceBEq]
      refine .done (hK _ ?_); clear hK K; simp only [thenQ, blockQ]
      refine AW.ret ?_
      simp only [blockQ, thenQ, bR, Nat.reduceEqDiff, reduceIte, Int.reduceBNe, Int.reduceBEq]
      simp [possR, hm, ha]
    · cases h
  simp only [typR, useR, okR, bR, Nat.reduceEqDiff, reduceIte, Int.reduceBNe, Int.reduceBEq]
  refine .done (hK _ ?_); clear hK K; simp only [thenQ, blockQ]
  refine AW.ite ?_
  simp only [condQ, bR, Nat.reduceEqDiff, reduceIte, Int.reduceBNe, Int.reduceBEq]
  refine ⟨fun h => ?_, fun h => ?_⟩
  · cases h
  refine AW.skip ?_; simp only [thenQ, blockQ, reduceIte, Nat.reduceEqDiff]
  refine AW.seq (AW.seq ?_)
  refine AW.reg cd52_5 fun K hK => ?_
  simp only [g52_5, bR, Nat.reduceEqDiff, reduceIte, Int.reduceBNe, Int.reduceBEq]
  simp only [typR, useR, okR, e_fin, bR, Nat.reduceEqDiff, reduceIte, Int.reduceBNe, Int.reduceBEq]
  refine .flat _ (F46' r) rfl ?_
  generalize hr : okReading r = br
  cases br
  · simp only [typR, useR, okR, bR, Nat.reduceEqDiff, reduceIte, Int.reduceBNe, Int.reduceBEq]
    refine .done (hK _ ?_); clear hK K; simp only [thenQ, blockQ]
    refine AW.ite ?_
    simp only [condQ, bR, Nat.reduceEqDiff, reduceIte, Int.reduceBNe, Int.reduceBEq]
    refine ⟨fun h => ?_, fun h => ?_⟩
    · refine AW.seq (AW.reg cd52_6 fun K hK => ?_)
      simp only [g52_6, bR, Nat.reduceEqDiff, reduceIte, Int.reduceBNe, Int.reduceBEq]
      refine .done (hK _ ?_); clear hK K; simp only [thenQ, blockQ]
      refine AW.ret ?_
      simp only [blockQ, thenQ, bR, Nat.reduceEqDiff, reduceIte, Int.reduceBNe, Int.reduceBEq]
      simp [possR, hm, ha, hr]
    · cases h
  simp only [typR, useR, okR, bR, Nat.reduceEqDiff, reduceIte, Int.reduceBNe, Int.reduceBEq]
  refine .done (hK _ ?_); clear hK K; simp only [thenQ, blockQ]
  refine AW.ite ?_
  simp only [condQ, bR, Nat.reduceEqDiff, reduceIte, Int.reduceBNe, Int.reduceBEq]
  refine ⟨fun h => ?_, fun h => ?_⟩
  · cases h
  refine AW.skip ?_; simp only [thenQ, blockQ, reduceIte, Nat.reduceEqDiff]
  refine AW.seq (AW.reg cd52_7 fun K hK => ?_)
  simp only [g52_7, bR, Nat.reduceEqDiff, reduceIte, Int.reduceBNe, Int.reduceBEq]
  simp only [typR, useR, okR, e_fin, bR, Nat.reduceEqDiff, reduceIte, Int.reduceBNe, Int.reduceBEq]
  refine .flat _ (F86 m.wear a r ha) rfl ?_
  simp only [typR, useR, okR, bR, Nat.reduceEqDiff, reduceIte, Int.reduceBNe, Int.reduceBEq]
  refine .done (hK _ ?_); clear hK K; simp only [thenQ, blockQ]
  refine AW.ret ?_
  simp only [blockQ, thenQ, bR, Nat.reduceEqDiff, reduceIte, Int.reduceBNe, Int.reduceBEq]
  simp [possR, hm, ha, hr]

end Go.Proofs.Ytkjkbpgdpnapfaa

/-
  FUNCTIONS OF THE PACKAGE mark BY CONTRACT: isMark, isReading, isWear, isOwner, CheckMark, CheckReading, CheckWear; IndexFunc and ContainsFunc over whole numbers.
-/
namespace Go.Proofs.Ytkjkbpgdpnapfaa
open Go Go.Abs
open Go.Abs.Enc (enc)

theorem F116 (n : Int) : Ctr Try.prog 116 [enc n] (enc (!inR 0 4 n)) := by
  refine Ctr.mk' Try.func116 ca116 cc116 cr116 (Nat.le_of_ble_eq_true rfl) (fun hwf W0 D0 E1 => ?_)
  simp only [c116, r116, idx, Nat.zero_add, Nat.reduceAdd]
  refine AW.seq (AW.reg cd116_0 fun K hK => ?_)
  simp only [g116_0, bR, Nat.reduceEqDiff, reduceIte, Int.reduceBNe, Int.reduceBEq]
  refine .done (hK _ ?_); clear hK K; simp only [thenQ, blockQ]
  refine AW.seq (AW.reg cd116_1 fun K hK => ?_)
  simp only [g116_1, bR, Nat.reduceEqDiff, reduceIte, Int.reduceBNe, Int.reduceBEq]
  refine .flat _ (F89 n 0 4) rfl ?_
  simp only [bR, Nat.reduceEqDiff, reduceIte, Int.reduceBNe, Int.reduceBEq]
  refine .done (hK _ ?_); clear hK K; simp only [thenQ, blockQ]
  refine AW.ret ?_
  simp only [blockQ, thenQ, bR, Nat.reduceEqDiff, reduceIte, Int.reduceBNe, Int.reduceBEq]

theorem F118 (n : Int) : Ctr Try.prog 118 [enc n] (enc (!inR 1 31 n)) := by
  refine Ctr.mk' Try.func118 ca118 cc118 cr118 (Nat.le_of_ble_eq_true rfl) (fun hwf W0 D0 E1 => ?_)
  simp only [c118, r118, idx, Nat.zero_add, Nat.reduceAdd]
  refine AW.seq (AW.reg cd118_0 fun K hK => ?_)
  simp only [g118_0, bR, Nat.reduceEqDiff, reduceIte, Int.reduceBNe, Int.reduceBEq]
  refine .done (hK _ ?_); clear hK K; simp only [thenQ, blockQ]
  refine AW.seq (AW.reg cd118_1 fun K hK => ?_)
  simp only [g118_1, bR, Nat.reduceEqDiff, reduceIte, Int.reduceBNe, Int.reduceBEq]
  generalize hz : (n == 0) = z
  cases z
  · simp only [bR, Nat.reduceEqDiff, reduceIte, Int.reduceBNe, Int.reduceBEq]
    refine .flat _ (F117 n) rfl ?_
    simp only [bR, Nat.reduceEqDiff, reduceIte, Int.reduceBNe, Int.reduceBEq]
    refine .done (hK _ ?_); clear hK K; simp only [thenQ, blockQ]
    refine AW.ret ?_
    simp only [blockQ, thenQ, bR, Nat.reduceEqDiff, reduceIte, Int.reduceBNe, Int.reduceBEq]
    simp at hz
    have e : (0 ≤ n) ↔ (1 ≤ n) := by omega
    simp [inR, e]
  · simp only [bR, Nat.reduceEqDiff, reduceIte, Int.reduceBNe, Int.reduceBEq]
    refine .done (hK _ ?_); clear hK K; simp only [thenQ, blockQ]
    refine AW.ret ?_
    simp only [blockQ, thenQ, bR, Nat.reduceEqDiff, reduceIte, Int.reduceBNe, Int.reduceBEq]
    simp at hz
    simp [inR, hz]

def idxI (p : Int → Bool) (l : List Int) : Int := match l.findIdx? p with
  | some i => i
  | none => -1

theorem findIdx?_none_take {α : Type} {p : α → Bool} {l : List α} (h : ∀ x ∈ l, p x = false) : l.findIdx? p = none := by
  rw [List.findIdx?_eq_none_iff]; exact h
theorem findIdx?_some_at {α : Type} {p : α → Bool} {l : List α} {i : Nat} (hi : i < l.length) (h : ∀ x ∈ l.take i, p x = false) (hp : p l[i] = true) : l.findIdx? p = some i := by
  rw [List.findIdx?_eq_some_iff_getElem]
  refine ⟨hi, hp, fun j hj => ?_⟩
  have : l[j] ∈ l.take i := by
    rw [List.mem_take_iff_getElem]
    exact ⟨j, by omega, rfl⟩
  simp [h _ this]

theorem F109 (l : List Int) (f : FuncId) (caps : List AV) (hcaps : AV.dones caps = true) (p : Int → Bool) (hf : ∀ x ∈ l, Ctr Try.prog f (enc x :: caps) (enc (p x))) : Ctr Try.prog 109 [enc l, .func f caps] (enc (idxI p l)) := by
  refine Ctr.mk' Try.func109 ca109 cc109 cr109 (Nat.le_of_ble_eq_true rfl) (fun hwf W0 D0 E1 => ?_)
  simp only [c109, r109, idx, Nat.zero_add, Nat.reduceAdd]
  have hlen : l.length ≤ maxLen := ((wf_list l).1 hwf.1).1
  simp only [maxLen] at hlen
  have hcl : AV.closeds caps = true := dones_closed caps hcaps
  have hfc : ∀ bx A, fins bx A caps = some caps := fun bx A => fins_dones bx A caps hcaps
  have hon : ∀ q, AV.onlys q caps = true := fun q => onlys_closed q caps hcl
  refine AW.seq (AW.reg cd109_0 fun K hK => ?_)
  simp only [g109_0, bR, Nat.reduceEqDiff, reduceIte, Int.reduceBNe, Int.reduceBEq]
  refine .done (hK _ ?_); clear hK K; simp only [thenQ, blockQ]
  refine AW.seq ?_
  refine AW.seq (AW.reg cd109_1 fun K hK => ?_)
  simp only [g109_1, useR, bR, Nat.reduceEqDiff, reduceIte, Int.reduceBNe, Int.reduceBEq]
  refine .done (hK _ ?_); clear hK K; simp only [thenQ, blockQ]
  refine AW.block (AW.loop (fun i : Nat => mkA [(0, enc l), (1, .func f caps), (7, .int .i64 l.length), (8, .int .i64 i)] []) (fun i => i ≤ l.length ∧ ∀ x ∈ l.take i, p x = false) (fun i => l.length - i) 0 ⟨Nat.zero_le _, by simp⟩ ?_ (fun i hi => ?_))
  · refine Sub.of_lists ?_ ?_ ?_ ?_ <;> simp [subT, subO, onlyT, onlyO, isIn, look_cons, lookO_cons, lookO_nil, AV.only, AV.onlys, AO.only, onlys_map, onlys_append, e_only, e_int, e_bool, hon]
  · refine AW.seq (AW.reg cd109_2 fun K hK => ?_)
    simp only [g109_2, bR, Nat.reduceEqDiff, reduceIte, Int.reduceBNe, Int.reduceBEq]
    refine .done (hK _ ?_); clear hK K; simp only [thenQ, blockQ]
    refine AW.seq ?_
    refine AW.ite ?_
    simp only [condQ, bR, Nat.reduceEqDiff, reduceIte, Int.reduceBNe, Int.reduceBEq]
    refine ⟨fun h => ?_, fun h => ?_⟩
    · have hlt : i < l.length := by simpa using h
      refine AW.skip ?_; simp only [thenQ, blockQ, reduceIte, Nat.reduceEqDiff]
      refine AW.seq (AW.block ?_)
      refine AW.seq (AW.reg cd109_3 fun K hK => ?_)
      simp only [g109_3, bR, Nat.reduceEqDiff, reduceIte, Int.reduceBNe, Int.reduceBEq]
      refine .done (hK _ ?_); clear hK K; simp only [thenQ, blockQ]
      refine AW.seq (AW.reg cd109_4 fun K hK => ?_)
      simp only [g109_4, bR, Nat.reduceEqDiff, reduceIte, Int.reduceBNe, Int.reduceBEq]
      simp only [isE_nat 1 hlt rfl, okR, List.cons_append, hfc, bR, Nat.reduceEqDiff, reduceIte, Int.reduceBNe, Int.reduceBEq]
      refine .flat _ (hf _ (List.getElem_mem hlt)) rfl ?_
      simp only [bR, Nat.reduceEqDiff, reduceIte, Int.reduceBNe, Int.reduceBEq]
      refine .done (hK _ ?_); clear hK K; simp only [thenQ, blockQ]
      refine AW.ite ?_
      simp only [condQ, bR, Nat.reduceEqDiff, reduceIte, Int.reduceBNe, Int.reduceBEq]
      refine ⟨fun h => ?_, fun h => ?_⟩
      · refine AW.seq (AW.reg cd109_5 fun K hK => ?_)
        simp only [g109_5, bR, Nat.reduceEqDiff, reduceIte, Int.reduceBNe, Int.reduceBEq]
        refine .done (hK _ ?_); clear hK K; simp only [thenQ, blockQ]
        refine AW.ret ?_
        simp only [blockQ, thenQ, bR, Nat.reduceEqDiff, reduceIte, Int.reduceBNe, Int.reduceBEq]
        simp [idxI, findIdx?_some_at hlt hi.2 h]
      · refine AW.skip ?_; simp only [thenQ, blockQ, reduceIte, Nat.reduceEqDiff]
        refine AW.reg cd109_6 fun K hK => ?_
        simp only [g109_6, bR, Nat.reduceEqDiff, reduceIte, Int.reduceBNe, Int.reduceBEq]
        refine .done (hK _ ?_); clear hK K; simp only [thenQ, blockQ]
        refine ⟨i + 1, ⟨by omega, fun x hm => ?_⟩, by omega, ?_⟩
        · rw [List.take_succ_eq_append_getElem hlt] at hm
          rcases List.mem_append.1 hm with hm | hm
          · exact hi.2 x hm
          · simp at hm; rw [hm]; exact h
        · rw [wrap_id _ (by omega) (by omega)]
          refine Sub.of_lists ?_ ?_ ?_ ?_ <;> simp [subT, subO, onlyT, onlyO, isIn, look_cons, lookO_cons, lookO_nil, AV.only, AV.onlys, AO.only, onlys_map, onlys_append, e_only, e_int, e_bool, hon]
    · have hge : i = l.length := by simp at h; omega
      refine AW.exit ?_; simp only [thenQ, blockQ, reduceIte, Nat.reduceEqDiff]
      refine AW.seq (AW.reg cd109_7 fun K hK => ?_)
      simp only [g109_7, bR, Nat.reduceEqDiff, reduceIte, Int.reduceBNe, Int.reduceBEq]
      refine .done (hK _ ?_); clear hK K; simp only [thenQ, blockQ]
      refine AW.ret ?_
      simp only [blockQ, thenQ, bR, Nat.reduceEqDiff, reduceIte, Int.reduceBNe, Int.reduceBEq]
      simp [hge] at hi
      simp [idxI, findIdx?_none_take hi]

theorem idxI_any (p : Int → Bool) (l : List Int) : decide (0 ≤ idxI p l) = l.any p := by
  unfold idxI
  cases h : l.findIdx? p with
  | none =>
    rw [List.findIdx?_eq_none_iff] at h
    have : l.any p = false := by rw [List.any_eq_false]; intro x hx; simp [h x hx]
    simp [this]
  | some i =>
    rw [List.findIdx?_eq_some_iff_getElem] at h
    obtain ⟨h1, h2, _⟩ := h
    have : l.any p = true := by rw [List.any_eq_true]; exact ⟨_, List.getElem_mem h1, h2⟩
    rw [this]
    exact decide_eq_true (Int.natCast_nonneg i)

theorem F75 (l : List Int) (f : FuncId) (caps : List AV) (hcaps : AV.dones caps = true) (p : Int → Bool) (hf : ∀ x ∈ l, Ctr Try.prog f (enc x :: caps) (enc (p x))) : Ctr Try.prog 75 [enc l, .func f caps] (enc (l.any p)) := by
  refine Ctr.mk' Try.func75 ca75 cc75 cr75 (Nat.le_of_ble_eq_true rfl) (fun hwf W0 D0 E1 => ?_)
  simp only [c75, r75, idx, Nat.zero_add, Nat.reduceAdd]
  have hcl : AV.closeds caps = true := dones_closed caps hcaps
  have hfc : ∀ bx A, fins bx A caps = some caps := fun bx A => fins_dones bx A caps hcaps
  refine AW.seq (AW.reg cd75_0 fun K hK => ?_)
  simp only [g75_0, bR, Nat.reduceEqDiff, reduceIte, Int.reduceBNe, Int.reduceBEq]
  refine .done (hK _ ?_); clear hK K; simp only [thenQ, blockQ]
  refine AW.seq (AW.reg cd75_1 fun K hK => ?_)
  simp only [g75_1, bR, Nat.reduceEqDiff, reduceIte, Int.reduceBNe, Int.reduceBEq]
  simp only [e_fin, hfc, bR, Nat.reduceEqDiff, reduceIte, Int.reduceBNe, Int.reduceBEq]
  refine .flat _ (F109 l f caps hcaps p hf) rfl ?_
  simp only [bR, Nat.reduceEqDiff, reduceIte, Int.reduceBNe, Int.reduceBEq]
  refine .done (hK _ ?_); clear hK K; simp only [thenQ, blockQ]
  refine AW.ret ?_
  simp only [blockQ, thenQ, bR, Nat.reduceEqDiff, reduceIte, Int.reduceBNe, Int.reduceBEq]
  rw [idxI_any]

theorem finV_enc {α : Type} [Enc α] {n sz : Nat} (x : Arr n α) (hs : Enc.sz α = sz) : finV sz 0 n (some (x.l.map enc)) = some (enc x.l) := by
  have h : ((x.l.map (enc (α := α))).drop 0).take n = x.l.map enc := by
    rw [List.drop_zero, List.take_of_length_le]; simp [x.h]
  simp only [finV, h]
  rw [if_pos (closeds_map x.l), e_list, hs]
theorem vaF_enc {α : Type} [Enc α] {n sz : Nat} (x : Arr n α) (hs : Enc.sz α = sz) (h1 : n ≤ maxLen) (h0 : n ≠ 0) (y : AV) : vaF n sz (x.l.map enc) y = some y := by
  simp only [vaF]; rw [if_pos ⟨evenly_map n sz x.l x.h hs, h1, h0⟩]

theorem all_g (p : Int → Bool) (x : Arr 6 Int) : x.l.any (fun v => !p v) = !(List.range 6).all (fun i => p (x.g i)) := by
  have h : (List.range 6).all (fun i => p (x.g i)) = x.l.all p := by
    rw [Bool.eq_iff_iff]
    simp only [List.all_eq_true, List.mem_range]
    constructor
    · intro h v hv
      obtain ⟨i, hi, rfl⟩ := List.getElem_of_mem hv
      have := h i (by rw [x.h] at hi; exact hi)
      rwa [← x.g_eq (by rw [x.h] at hi; exact hi)] at this
    · intro h i hi
      rw [← x.g_eq hi]
      exact h _ (List.getElem_mem _)
  rw [h, List.not_all_eq_any_not]

theorem F93 (m : Arr 6 Int) : Ctr Try.prog 93 [enc m] (enc (okMark m)) := by
  refine Ctr.mk' Try.func93 ca93 cc93 cr93 (Nat.le_of_ble_eq_true rfl) (fun hwf W0 D0 E1 => ?_)
  simp only [c93, r93, idx, Nat.zero_add, Nat.reduceAdd]
  refine AW.seq (AW.reg cd93_0 fun K hK => ?_)
  simp only [g93_0, bR, Nat.reduceEqDiff, reduceIte, Int.reduceBNe, Int.reduceBEq]
  refine .done (hK _ ?_); clear hK K; simp only [thenQ, blockQ]
  refine AW.seq (AW.reg cd93_1 fun K hK => ?_)
  simp only [g93_1, bR, Nat.reduceEqDiff, reduceIte, Int.reduceBNe, Int.reduceBEq]
  simp only [useR, vaF_enc (sz := 1) m rfl (Nat.le_of_ble_eq_true rfl) (Nat.succ_ne_zero 5), finV_enc (sz := 1) m rfl, bR, Nat.reduceEqDiff, reduceIte, Int.reduceBNe, Int.reduceBEq]
  refine .flat _ (F75 m.l 116 [] rfl (fun n => !inR 0 4 n) (fun x _ => F116 x)) rfl ?_
  simp only [bR, Nat.reduceEqDiff, reduceIte, Int.reduceBNe, Int.reduceBEq]
  refine .done (hK _ ?_); clear hK K; simp only [thenQ, blockQ]
  refine AW.ret ?_
  simp only [blockQ, thenQ, bR, Nat.reduceEqDiff, reduceIte, Int.reduceBNe, Int.reduceBEq]
  rw [all_g (inR 0 4)]; simp [okMark]

theorem F96 (m : Arr 6 Int) : Ctr Try.prog 96 [enc m] (enc (okReading m)) := by
  refine Ctr.mk' Try.func96 ca96 cc96 cr96 (Nat.le_of_ble_eq_true rfl) (fun hwf W0 D0 E1 => ?_)
  simp only [c96, r96, idx, Nat.zero_add, Nat.reduceAdd]
  refine AW.seq (AW.reg cd96_0 fun K hK => ?_)
  simp only [g96_0, bR, Nat.reduceEqDiff, reduceIte, Int.reduceBNe, Int.reduceBEq]
  refine .done (hK _ ?_); clear hK K; simp only [thenQ, blockQ]
  refine AW.seq (AW.reg cd96_1 fun K hK => ?_)
  simp only [g96_1, bR, Nat.reduceEqDiff, reduceIte, Int.reduceBNe, Int.reduceBEq]
  simp only [useR, vaF_enc (sz := 1) m rfl (Nat.le_of_ble_eq_true rfl) (Nat.succ_ne_zero 5), finV_enc (sz := 1) m rfl, bR, Nat.reduceEqDiff, reduceIte, Int.reduceBNe, Int.reduceBEq]
  refine .flat _ (F75 m.l 118 [] rfl (fun n => !inR 1 31 n) (fun x _ => F118 x)) rfl ?_
  simp only [bR, Nat.reduceEqDiff, reduceIte, Int.reduceBNe, Int.reduceBEq]
  refine .done (hK _ ?_); clear hK K; simp only [thenQ, blockQ]
  refine AW.ret ?_
  simp only [blockQ, thenQ, bR, Nat.reduceEqDiff, reduceIte, Int.reduceBNe, Int.reduceBEq]
  rw [all_g (inR 1 31)]; simp [okReading]

theorem F97 (n : Int) : Ctr Try.prog 97 [enc n] (enc (inR 1 99 n)) := by
  refine Ctr.mk' Try.func97 ca97 cc97 cr97 (Nat.le_of_ble_eq_true rfl) (fun hwf W0 D0 E1 => ?_)
  simp only [c97, r97, idx, Nat.zero_add, Nat.reduceAdd]
  refine AW.seq (AW.reg cd97_0 fun K hK => ?_)
  simp only [g97_0, bR, Nat.reduceEqDiff, reduceIte, Int.reduceBNe, Int.reduceBEq]
  refine .done (hK _ ?_); clear hK K; simp only [thenQ, blockQ]
  refine AW.seq (AW.reg cd97_1 fun K hK => ?_)
  simp only [g97_1, bR, Nat.reduceEqDiff, reduceIte, Int.reduceBNe, Int.reduceBEq]
  refine .flat _ (F89 n 1 99) rfl ?_
  simp only [bR, Nat.reduceEqDiff, reduceIte, Int.reduceBNe, Int.reduceBEq]
  refine .done (hK _ ?_); clear hK K; simp only [thenQ, blockQ]
  refine AW.ret ?_
  simp only [blockQ, thenQ, bR, Nat.reduceEqDiff, reduceIte, Int.reduceBNe, Int.reduceBEq]

theorem F41 (m : Arr 6 Int) : Ctr Try.prog 41 [enc m] (enc (if okMark m then (0 : Int) else 10)) := by
  refine Ctr.mk' Try.func41 ca41 cc41 cr41 (Nat.le_of_ble_eq_true rfl) (fun hwf W0 D0 E1 => ?_)
  simp only [c41, r41, idx, Nat.zero_add, Nat.reduceAdd]
  refine AW.seq (AW.reg cd41_0 fun K hK => ?_)
  simp only [g41_0, bR, Nat.reduceEqDiff, reduceIte, Int.reduceBNe, Int.reduceBEq]
  refine .done (hK _ ?_); clear hK K; simp only [thenQ, blockQ]
  refine AW.seq (AW.seq ?_)
  refine AW.reg cd41_1 fun K hK => ?_
  simp only [g41_1, bR, Nat.reduceEqDiff, reduceIte, Int.reduceBNe, Int.reduceBEq]
  simp only [typR, useR, okR, e_fin, bR, Nat.reduceEqDiff, reduceIte, Int.reduceBNe, Int.reduceBEq]
  refine .flat _ (F93 m) rfl ?_
  generalize hm : okMark m = b
  cases b
  · simp only [bR, Nat.reduceEqDiff, reduceIte, Int.reduceBNe, Int.reduceBEq]
    refine .done (hK _ ?_); clear hK K; simp only [thenQ, blockQ]
    refine AW.ite ?_
    simp only [condQ, bR, Nat.reduceEqDiff, reduceIte, Int.reduceBNe, Int.reduceBEq]
    refine ⟨fun h => ?_, fun h => ?_⟩
    · refine AW.seq (AW.reg cd41_2 fun K hK => ?_)
      simp only [g41_2, bR, Nat.reduceEqDiff, reduceIte, Int.reduceBNe, Int.reduceBEq]
      refine .done (hK _ ?_); clear hK K; simp only [thenQ, blockQ]
      refine AW.ret ?_
      simp only [blockQ, thenQ, bR, Nat.reduceEqDiff, reduceIte, Int.reduceBNe, Int.reduceBEq]
      simp [hm]
    · cases h
  · simp only [bR, Nat.reduceEqDiff, reduceIte, Int.reduceBNe, Int.reduceBEq]
    refine .done (hK _ ?_); clear hK K; simp only [thenQ, blockQ]
    refine AW.ite ?_
    simp only [condQ, bR, Nat.reduceEqDiff, reduceIte, Int.reduceBNe, Int.reduceBEq]
    refine ⟨fun h => ?_, fun h => ?_⟩
    · cases h
    · refine AW.skip ?_; simp only [thenQ, blockQ, reduceIte, Nat.reduceEqDiff]
      refine AW.seq (AW.reg cd41_3 fun K hK => ?_)
      simp only [g41_3, bR, Nat.reduceEqDiff, reduceIte, Int.reduceBNe, Int.reduceBEq]
      refine .done (hK _ ?_); clear hK K; simp only [thenQ, blockQ]
      refine AW.ret ?_
      simp only [blockQ, thenQ, bR, Nat.reduceEqDiff, reduceIte, Int.reduceBNe, Int.reduceBEq]
      simp [hm]

theorem F45 (m : Arr 6 Int) : Ctr Try.prog 45 [enc m] (enc (if okReading m then (0 : Int) else 12)) := by
  refine Ctr.mk' Try.func45 ca45 cc45 cr45 (Nat.le_of_ble_eq_true rfl) (fun hwf W0 D0 E1 => ?_)
  simp only [c45, r45, idx, Nat.zero_add, Nat.reduceAdd]
  refine AW.seq (AW.reg cd45_0 fun K hK => ?_)
  simp only [g45_0, bR, Nat.reduceEqDiff, reduceIte, Int.reduceBNe, Int.reduceBEq]
  refine .done (hK _ ?_); clear hK K; simp only [thenQ, blockQ]
  refine AW.seq (AW.seq ?_)
  refine AW.reg cd45_1 fun K hK => ?_
  simp only [g45_1, bR, Nat.reduceEqDiff, reduceIte, Int.reduceBNe, Int.reduceBEq]
  simp only [typR, useR, okR, e_fin, bR, Nat.reduceEqDiff, reduceIte, Int.reduceBNe, Int.reduceBEq]
  refine .flat _ (F96 m) rfl ?_
  generalize hm : okReading m = b
  cases b
  · simp only [bR, Nat.reduceEqDiff, reduceIte, Int.reduceBNe, Int.reduceBEq]
    refine .done (hK _ ?_); clear hK K; simp only [thenQ, blockQ]
    refine AW.ite ?_
    simp only [condQ, bR, Nat.reduceEqDiff, reduceIte, Int.reduceBNe, Int.reduceBEq]
    refine ⟨fun h => ?_, fun h => ?_⟩
    · refine AW.seq (AW.reg cd45_2 fun K hK => ?_)
      simp only [g45_2, bR, Nat.reduceEqDiff, reduceIte, Int.reduceBNe, Int.reduceBEq]
      refine .done (hK _ ?_); clear hK K; simp only [thenQ, blockQ]
      refine AW.ret ?_
      simp only [blockQ, thenQ, bR, Nat.reduceEqDiff, reduceIte, Int.reduceBNe, Int.reduceBEq]
      simp [hm]
    · cases h
  · simp only [bR, Nat.reduceEqDiff, reduceIte, Int.reduceBNe, Int.reduceBEq]
    refine .done (hK _ ?_); clear hK K; simp only [thenQ, blockQ]
    refine AW.ite ?_
    simp only [condQ, bR, Nat.reduceEqDiff, reduceIte, Int.reduceBNe, Int.reduceBEq]
    refine ⟨fun h => ?_, fun h => ?_⟩
    · cases h
    · refine AW.skip ?_; simp only [thenQ, blockQ, reduceIte, Nat.reduceEqDiff]
      refine AW.seq (AW.reg cd45_3 fun K hK => ?_)
      simp only [g45_3, bR, Nat.reduceEqDiff, reduceIte, Int.reduceBNe, Int.reduceBEq]
      refine .done (hK _ ?_); clear hK K; simp only [thenQ, blockQ]
      refine AW.ret ?_
      simp only [blockQ, thenQ, bR, Nat.reduceEqDiff, reduceIte, Int.reduceBNe, Int.reduceBEq]
      simp [hm]

end Go.Proofs.Ytkjkbpgdpnapfaa

/-
  FUNCTIONS OF THE PACKAGE mark BY CONTRACT: has, isWear, CheckWear, differ.
-/
namespace Go.Proofs.Ytkjkbpgdpnapfaa
open Go Go.Abs
open Go.Abs.Enc (enc)

def hasB (s : Int) (k : Nat) : Bool := band (s.fdiv (2 ^ min k IntKind.i64.bits)) 1 == 1

theorem F110 (s : Int) (k : Nat) : Ctr Try.prog 110 [enc s, enc (k : Int)] (enc (hasB s k)) := by
  refine Ctr.mk' Try.func110 ca110 cc110 cr110 (Nat.le_of_ble_eq_true rfl) (fun hwf W0 D0 E1 => ?_)
  simp only [c110, r110, idx, Nat.zero_add, Nat.reduceAdd]
  refine AW.seq (AW.reg cd110_0 fun K hK => ?_)
  simp only [g110_0, bR, Nat.reduceEqDiff, reduceIte, Int.reduceBNe, Int.reduceBEq]
  refine .done (hK _ ?_); clear hK K; simp only [thenQ, blockQ]
  refine AW.seq (AW.reg cd110_1 fun K hK => ?_)
  simp only [g110_1, bR, Nat.reduceEqDiff, reduceIte, Int.reduceBNe, Int.reduceBEq]
  refine .done (hK _ ?_); clear hK K; simp only [thenQ, blockQ]
  refine AW.ret ?_
  simp only [blockQ, thenQ, bR, Nat.reduceEqDiff, reduceIte, Int.reduceBNe, Int.reduceBEq]
  rfl

theorem has_bit (s : Int) (h0 : 0 ≤ s) (h1 : s ≤ 31) (k : Nat) (hk : k < 5) : hasB s k = bit s k := by
  have key : ∀ s : Fin 32, ∀ k : Fin 5, hasB (s.1 : Int) k.1 = bit (s.1 : Int) k.1 := by decide +kernel
  have := key ⟨s.toNat, by omega⟩ ⟨k, hk⟩
  simpa [Int.toNat_of_nonneg h0] using this

theorem F95 (m : Arr 5 Int) : Ctr Try.prog 95 [enc m] (enc (okWear m)) := by
  refine Ctr.mk' Try.func95 ca95 cc95 cr95 (Nat.le_of_ble_eq_true rfl) (fun hwf W0 D0 E1 => ?_)
  simp only [c95, r95, idx, Nat.zero_add, Nat.reduceAdd]
  refine AW.seq (AW.reg cd95_0 fun K hK => ?_)
  simp only [g95_0, bR, Nat.reduceEqDiff, reduceIte, Int.reduceBNe, Int.reduceBEq]
  refine .done (hK _ ?_); clear hK K; simp only [thenQ, blockQ]
  refine AW.seq ?_
  refine AW.seq (AW.reg cd95_1 fun K hK => ?_)
  simp only [g95_1, typR, useR, okR, bR, Nat.reduceEqDiff, reduceIte, Int.reduceBNe, Int.reduceBEq]
  refine .done (hK _ ?_); clear hK K; simp only [thenQ, blockQ]
  refine AW.block (AW.loop (fun i : Nat => mkA [(2, .bool false), (6, enc m), (7, .int .i64 i)] []) (fun j => j ≤ 5 ∧ ∀ i, i < j → (inR 0 31 (m.g i) && bit (m.g i) i) = true) (fun i => 5 - i) 0 ⟨by omega, fun k h => by omega⟩ ?_ (fun i hi => ?_))
  · refine Sub.of_lists ?_ ?_ ?_ ?_ <;> simp [subT, subO, onlyT, onlyO, isIn, look_cons, lookO_cons, lookO_nil, AV.only, AV.onlys, AO.only, onlys_map, onlys_append, e_only, e_int, e_bool]
  · refine AW.seq (AW.reg cd95_2 fun K hK => ?_)
    simp only [g95_2, bR, Nat.reduceEqDiff, reduceIte, Int.reduceBNe, Int.reduceBEq]
    refine .done (hK _ ?_); clear hK K; simp only [thenQ, blockQ]
    refine AW.seq ?_
    refine AW.ite ?_
    simp only [condQ, bR, Nat.reduceEqDiff, reduceIte, Int.reduceBNe, Int.reduceBEq]
    refine ⟨fun h => ?_, fun h => ?_⟩
    · have hlt : i < 5 := by simp at h; omega
      refine AW.skip ?_; simp only [thenQ, blockQ, reduceIte, Nat.reduceEqDiff]
      refine AW.seq (AW.block ?_)
      refine AW.seq (AW.reg cd95_3 fun K hK => ?_)
      simp only [g95_3, bR, Nat.reduceEqDiff, reduceIte, Int.reduceBNe, Int.reduceBEq]
      simp only [ixI, ixE, useR, inB_nat 1 m hlt rfl, get_g m hlt, okR, bR, Nat.reduceEqDiff, reduceIte, Int.reduceBNe, Int.reduceBEq]
      refine .done (hK _ ?_); clear hK K; simp only [thenQ, blockQ]
      refine AW.seq (AW.reg cd95_4 fun K hK => ?_)
      simp only [g95_4, bR, Nat.reduceEqDiff, reduceIte, Int.reduceBNe, Int.reduceBEq]
      refine .done (hK _ ?_); clear hK K; simp only [thenQ, blockQ]
      refine AW.seq (AW.reg cd95_5 fun K hK => ?_)
      simp only [g95_5, bR, Nat.reduceEqDiff, reduceIte, Int.reduceBNe, Int.reduceBEq]
      refine .flat _ (F117 _) rfl ?_
      generalize hb : inR 0 31 (m.g i) = b
      cases b
      · simp only [bR, Nat.reduceEqDiff, reduceIte, Int.reduceBNe, Int.reduceBEq]
        refine .done (hK _ ?_); clear hK K; simp only [thenQ, blockQ]
        refine AW.ite ?_
        simp only [condQ, bR, Nat.reduceEqDiff, reduceIte, Int.reduceBNe, Int.reduceBEq]
        refine ⟨fun h => ?_, fun h => ?_⟩
        · refine AW.seq (AW.reg cd95_6 fun K hK => ?_)
          simp only [g95_6, bR, Nat.reduceEqDiff, reduceIte, Int.reduceBNe, Int.reduceBEq]
          refine .done (hK _ ?_); clear hK K; simp only [thenQ, blockQ]
          refine AW.ret ?_
          simp only [blockQ, thenQ, bR, Nat.reduceEqDiff, reduceIte, Int.reduceBNe, Int.reduceBEq]
          rw [okWear, all_false i hlt]
          simp [hb]
        · cases h
      · have hr : 0 ≤ m.g i ∧ m.g i ≤ 31 := by simpa [inR] using hb
        simp only [bR, Nat.reduceEqDiff, reduceIte, Int.reduceBNe, Int.reduceBEq]
        refine .flat _ (F110 (m.g i) i) rfl ?_
        rw [has_bit _ hr.1 hr.2 i hlt]
        simp only [bR, Nat.reduceEqDiff, reduceIte, Int.reduceBNe, Int.reduceBEq]
        refine .done (hK _ ?_); clear hK K; simp only [thenQ, blockQ]
        refine AW.ite ?_
        simp only [condQ, bR, Nat.reduceEqDiff, reduceIte, Int.reduceBNe, Int.reduceBEq]
        refine ⟨fun h => ?_, fun h => ?_⟩
        · refine AW.seq (AW.reg cd95_6 fun K hK => ?_)
          simp only [g95_6, bR, Nat.reduceEqDiff, reduceIte, Int.reduceBNe, Int.reduceBEq]
          refine .done (hK _ ?_); clear hK K; simp only [thenQ, blockQ]
          refine AW.ret ?_
          simp only [blockQ, thenQ, bR, Nat.reduceEqDiff, reduceIte, Int.reduceBNe, Int.reduceBEq]
          rw [okWear, all_false i hlt]
          simp at h
          simp [h]
        · refine AW.skip ?_; simp only [thenQ, blockQ, reduceIte, Nat.reduceEqDiff]
          refine AW.reg cd95_7 fun K hK => ?_
          simp only [g95_7, bR, Nat.reduceEqDiff, reduceIte, Int.reduceBNe, Int.reduceBEq]
          refine .done (hK _ ?_); clear hK K; simp only [thenQ, blockQ]
          refine ⟨i + 1, ⟨by omega, fun k hk => ?_⟩, by omega, ?_⟩
          · by_cases hk' : k = i
            · subst hk'
              simp at h
              simp [hb, h]
            · exact hi.2 k (by omega)
          · rw [wrap_id _ (by omega) (by omega)]
            refine Sub.of_lists ?_ ?_ ?_ ?_ <;> simp [subT, subO, onlyT, onlyO, isIn, look_cons, lookO_cons, lookO_nil, AV.only, AV.onlys, AO.only, onlys_map, onlys_append, e_only, e_int, e_bool]
    · have hge : i = 5 := by simp at h; omega
      subst hge
      refine AW.exit ?_; simp only [thenQ, blockQ, reduceIte, Nat.reduceEqDiff]
      refine AW.seq (AW.reg cd95_8 fun K hK => ?_)
      simp only [g95_8, bR, Nat.reduceEqDiff, reduceIte, Int.reduceBNe, Int.reduceBEq]
      refine .done (hK _ ?_); clear hK K; simp only [thenQ, blockQ]
      refine AW.ret ?_
      simp only [blockQ, thenQ, bR, Nat.reduceEqDiff, reduceIte, Int.reduceBNe, Int.reduceBEq]
      rw [okWear, all_true hi.2]

theorem F43 (m : Arr 5 Int) : Ctr Try.prog 43 [enc m] (enc (if okWear m then (0 : Int) else 11)) := by
  refine Ctr.mk' Try.func43 ca43 cc43 cr43 (Nat.le_of_ble_eq_true rfl) (fun hwf W0 D0 E1 => ?_)
  simp only [c43, r43, idx, Nat.zero_add, Nat.reduceAdd]
  refine AW.seq (AW.reg cd43_0 fun K hK => ?_)
  simp only [g43_0, bR, Nat.reduceEqDiff, reduceIte, Int.reduceBNe, Int.reduceBEq]
  refine .done (hK _ ?_); clear hK K; simp only [thenQ, blockQ]
  refine AW.seq (AW.seq ?_)
  refine AW.reg cd43_1 fun K hK => ?_
  simp only [g43_1, bR, Nat.reduceEqDiff, reduceIte, Int.reduceBNe, Int.reduceBEq]
  simp only [typR, useR, okR, e_fin, bR, Nat.reduceEqDiff, reduceIte, Int.reduceBNe, Int.reduceBEq]
  refine .flat _ (F95 m) rfl ?_
  generalize hm : okWear m = b
  cases b
  · simp only [bR, Nat.reduceEqDiff, reduceIte, Int.reduceBNe, Int.reduceBEq]
    refine .done (hK _ ?_); clear hK K; simp only [thenQ, blockQ]
    refine AW.ite ?_
    simp only [condQ, bR, Nat.reduceEqDiff, reduceIte, Int.reduceBNe, Int.reduceBEq]
    refine ⟨fun h => ?_, fun h => ?_⟩
    · refine AW.seq (AW.reg cd43_2 fun K hK => ?_)
      simp only [g43_2, bR, Nat.reduceEqDiff, reduceIte, Int.reduceBNe, Int.reduceBEq]
      refine .done (hK _ ?_); clear hK K; simp only [thenQ, blockQ]
      refine AW.ret ?_
      simp only [blockQ, thenQ, bR, Nat.reduceEqDiff, reduceIte, Int.reduceBNe, Int.reduceBEq]
      simp [hm]
    · cases h
  · simp only [bR, Nat.reduceEqDiff, reduceIte, Int.reduceBNe, Int.reduceBEq]
    refine .done (hK _ ?_); clear hK K; simp only [thenQ, blockQ]
    refine AW.ite ?_
    simp only [condQ, bR, Nat.reduceEqDiff, reduceIte, Int.reduceBNe, Int.reduceBEq]
    refine ⟨fun h => ?_, fun h => ?_⟩
    · cases h
    · refine AW.skip ?_; simp only [thenQ, blockQ, reduceIte, Nat.reduceEqDiff]
      refine AW.seq (AW.reg cd43_3 fun K hK => ?_)
      simp only [g43_3, bR, Nat.reduceEqDiff, reduceIte, Int.reduceBNe, Int.reduceBEq]
      refine .done (hK _ ?_); clear hK K; simp only [thenQ, blockQ]
      refine AW.ret ?_
      simp only [blockQ, thenQ, bR, Nat.reduceEqDiff, reduceIte, Int.reduceBNe, Int.reduceBEq]
      simp [hm]

theorem cnt_not (p q : Nat → Bool) (n : Nat) (h : ∀ i, i < n → p i = !q i) : cnt p n = cnt (fun i => !q i) n := by
  induction n with
  | zero => rfl
  | succ n ih => simp only [cnt, ih fun i hi => h i (by omega), h n (by omega)]

theorem F111 (f : FuncId) (caps : List AV) (hcaps : AV.dones caps = true) (p : Nat → Bool) (hf : ∀ i : Nat, i < 6 → Ctr Try.prog f (enc (i : Int) :: caps) (enc (p i))) : Ctr Try.prog 111 [.func f caps] (enc (cnt (fun i => !p i) 6 : Int)) := by
  refine Ctr.mk' Try.func111 ca111 cc111 cr111 (Nat.le_of_ble_eq_true rfl) (fun hwf W0 D0 E1 => ?_)
  simp only [c111, r111, idx, Nat.zero_add, Nat.reduceAdd]
  have hcl : AV.closeds caps = true := dones_closed caps hcaps
  have hfc : ∀ bx A, fins bx A caps = some caps := fun bx A => fins_dones bx A caps hcaps
  have hon : ∀ q, AV.onlys q caps = true := fun q => onlys_closed q caps hcl
  refine AW.seq (AW.reg cd111_0 fun K hK => ?_)
  simp only [g111_0, bR, Nat.reduceEqDiff, reduceIte, Int.reduceBNe, Int.reduceBEq]
  refine .done (hK _ ?_); clear hK K; simp only [thenQ, blockQ]
  refine AW.seq (AW.reg cd111_1 fun K hK => ?_)
  simp only [g111_1, bR, Nat.reduceEqDiff, reduceIte, Int.reduceBNe, Int.reduceBEq]
  refine .done (hK _ ?_); clear hK K; simp only [thenQ, blockQ]
  refine AW.seq ?_
  refine AW.seq (AW.reg cd111_2 fun K hK => ?_)
  simp only [g111_2, bR, Nat.reduceEqDiff, reduceIte, Int.reduceBNe, Int.reduceBEq]
  refine .done (hK _ ?_); clear hK K; simp only [thenQ, blockQ]
  refine AW.block (AW.loop (fun i : Nat => mkA [(0, .func f caps), (3, .int .i64 (cnt (fun i => !p i) i : Int)), (5, .int .i64 i)] []) (fun i => i ≤ 6 ∧ cnt (fun i => !p i) i ≤ i) (fun i => 6 - i) 0 ⟨by omega, by simp [cnt]⟩ ?_ (fun i hi => ?_))
  · refine Sub.of_lists ?_ ?_ ?_ ?_ <;> simp [subT, subO, onlyT, onlyO, isIn, look_cons, lookO_cons, lookO_nil, AV.only, AV.onlys, AO.only, onlys_map, onlys_append, e_only, e_int, e_bool, hon, cnt]
  · refine AW.seq (AW.reg cd111_3 fun K hK => ?_)
    simp only [g111_3, bR, Nat.reduceEqDiff, reduceIte, Int.reduceBNe, Int.reduceBEq]
    refine .done (hK _ ?_); clear hK K; simp only [thenQ, blockQ]
    refine AW.seq ?_
    refine AW.ite ?_
    simp only [condQ, bR, Nat.reduceEqDiff, reduceIte, Int.reduceBNe, Int.reduceBEq]
    refine ⟨fun h => ?_, fun h => ?_⟩
    · have hlt : i < 6 := by simp at h; omega
      refine AW.skip ?_; simp only [thenQ, blockQ, reduceIte, Nat.reduceEqDiff]
      refine AW.seq (AW.block ?_)
      refine AW.seq (AW.reg cd111_4 fun K hK => ?_)
      simp only [g111_4, bR, Nat.reduceEqDiff, reduceIte, Int.reduceBNe, Int.reduceBEq]
      refine .done (hK _ ?_); clear hK K; simp only [thenQ, blockQ]
      refine AW.seq (AW.reg cd111_5 fun K hK => ?_)
      simp only [g111_5, bR, Nat.reduceEqDiff, reduceIte, Int.reduceBNe, Int.reduceBEq]
      simp only [List.cons_append, hfc, bR, Nat.reduceEqDiff, reduceIte, Int.reduceBNe, Int.reduceBEq]
      refine .flat _ (hf i hlt) rfl ?_
      simp only [bR, Nat.reduceEqDiff, reduceIte, Int.reduceBNe, Int.reduceBEq]
      refine .done (hK _ ?_); clear hK K; simp only [thenQ, blockQ]
      refine AW.ite ?_
      simp only [condQ, bR, Nat.reduceEqDiff, reduceIte, Int.reduceBNe, Int.reduceBEq]
      refine ⟨fun h => ?_, fun h => ?_⟩
      · simp at h
        refine AW.reg cd111_6 fun K hK => ?_
        simp only [g111_6, bR, Nat.reduceEqDiff, reduceIte, Int.reduceBNe, Int.reduceBEq]
        refine .done (hK _ ?_); clear hK K; simp only [thenQ, blockQ]
        refine AW.reg cd111_7 fun K hK => ?_
        simp only [g111_7, bR, Nat.reduceEqDiff, reduceIte, Int.reduceBNe, Int.reduceBEq]
        refine .done (hK _ ?_); clear hK K; simp only [thenQ, blockQ]
        refine ⟨i + 1, ⟨by omega, ?_⟩, by omega, ?_⟩
        · simp only [cnt]; split <;> omega
        · rw [wrap_id _ (by omega) (by omega), wrap_id _ (by omega) (by omega)]
          refine Sub.of_lists ?_ ?_ ?_ ?_ <;> simp [subT, subO, onlyT, onlyO, isIn, look_cons, lookO_cons, lookO_nil, AV.only, AV.onlys, AO.only, onlys_map, onlys_append, e_only, e_int, e_bool, hon, cnt, h]
      · simp at h
        refine AW.skip ?_; simp only [thenQ, blockQ, reduceIte, Nat.reduceEqDiff]
        refine AW.reg cd111_7 fun K hK => ?_
        simp only [g111_7, bR, Nat.reduceEqDiff, reduceIte, Int.reduceBNe, Int.reduceBEq]
        refine .done (hK _ ?_); clear hK K; simp only [thenQ, blockQ]
        refine ⟨i + 1, ⟨by omega, ?_⟩, by omega, ?_⟩
        · simp only [cnt]; split <;> omega
        · rw [wrap_id _ (by omega) (by omega)]
          refine Sub.of_lists ?_ ?_ ?_ ?_ <;> simp [subT, subO, onlyT, onlyO, isIn, look_cons, lookO_cons, lookO_nil, AV.only, AV.onlys, AO.only, onlys_map, onlys_append, e_only, e_int, e_bool, hon, cnt, h]
    · have hge : i = 6 := by simp at h; omega
      subst hge
      refine AW.exit ?_; simp only [thenQ, blockQ, reduceIte, Nat.reduceEqDiff]
      refine AW.seq (AW.reg cd111_8 fun K hK => ?_)
      simp only [g111_8, bR, Nat.reduceEqDiff, reduceIte, Int.reduceBNe, Int.reduceBEq]
      refine .done (hK _ ?_); clear hK K; simp only [thenQ, blockQ]
      refine AW.ret ?_
      simp only [blockQ, thenQ, bR, Nat.reduceEqDiff, reduceIte, Int.reduceBNe, Int.reduceBEq]

end Go.Proofs.Ytkjkbpgdpnapfaa

/-
  FUNCTIONS OF THE PACKAGE mark BY CONTRACT: cost, distance; IndexFunc and ContainsFunc over given marks; isApart.
-/
namespace Go.Proofs.Ytkjkbpgdpnapfaa
open Go Go.Abs
open Go.Abs.Enc (enc)

theorem capR : (∀ f caps, okLO none (some (.func f caps)) = some (.func f caps)) ∧ (∀ x : AV, derefE (mkA [] []) (.ref x) = some x) := ⟨okLO_func, fun _ => rfl⟩

theorem F113 (w : Arr 5 Int) (m r : Arr 6 Int) (hm : okMark m = true) (i : Nat) (hi : i < 6) : Ctr Try.prog 113 (enc (i : Int) :: [.ref (.func 78 []), .ref (enc w), .ref (enc m), .ref (enc r)]) (enc (!costAt w m r i)) := by
  obtain ⟨h0, h5⟩ := okMark_at hm hi
  refine Ctr.mk' Try.func113 ca113 cc113 cr113 (Nat.le_of_ble_eq_true rfl) (fun hwf W0 D0 E1 => ?_)
  simp only [c113, r113, idx, Nat.zero_add, Nat.reduceAdd]
  refine AW.seq (AW.reg cd113_0 fun K hK => ?_)
  simp only [g113_0, bR, Nat.reduceEqDiff, reduceIte, Int.reduceBNe, Int.reduceBEq]
  refine .done (hK _ ?_); clear hK K; simp only [thenQ, blockQ]
  refine AW.seq (AW.reg cd113_1 fun K hK => ?_)
  simp only [g113_1, bR, Nat.reduceEqDiff, reduceIte, Int.reduceBNe, Int.reduceBEq]
  simp only [typR, useR, okR, e_fin, bR, Nat.reduceEqDiff, reduceIte, Int.reduceBNe, Int.reduceBEq]
  refine .flat _ (F77 w m i hi h0 h5) rfl ?_
  simp only [typR, useR, okR, inB_nat 1 r hi rfl, iaR, get_g r hi, List.append_nil, bR, Nat.reduceEqDiff, reduceIte, Int.reduceBNe, Int.reduceBEq]
  refine .flat _ (F78 _ _) rfl ?_
  simp only [bR, Nat.reduceEqDiff, reduceIte, Int.reduceBNe, Int.reduceBEq]
  refine .done (hK _ ?_); clear hK K; simp only [thenQ, blockQ]
  refine AW.ret ?_
  simp only [blockQ, thenQ, bR, Nat.reduceEqDiff, reduceIte, Int.reduceBNe, Int.reduceBEq]
  simp [costAt, bne]

theorem F112 (w : Arr 5 Int) (a b : Arr 6 Int) (ha : okMark a = true) (hb : okMark b = true) (i : Nat) (hi : i < 6) : Ctr Try.prog 112 (enc (i : Int) :: [.ref (.func 78 []), .ref (enc w), .ref (enc a), .ref (enc b)]) (enc (!apartAt w a b i)) := by
  obtain ⟨h0, h5⟩ := okMark_at ha hi
  obtain ⟨k0, k5⟩ := okMark_at hb hi
  refine Ctr.mk' Try.func112 ca112 cc112 cr112 (Nat.le_of_ble_eq_true rfl) (fun hwf W0 D0 E1 => ?_)
  simp only [c112, r112, idx, Nat.zero_add, Nat.reduceAdd]
  refine AW.seq (AW.reg cd112_0 fun K hK => ?_)
  simp only [g112_0, bR, Nat.reduceEqDiff, reduceIte, Int.reduceBNe, Int.reduceBEq]
  refine .done (hK _ ?_); clear hK K; simp only [thenQ, blockQ]
  refine AW.seq (AW.reg cd112_1 fun K hK => ?_)
  simp only [g112_1, bR, Nat.reduceEqDiff, reduceIte, Int.reduceBNe, Int.reduceBEq]
  simp only [typR, useR, okR, e_fin, bR, Nat.reduceEqDiff, reduceIte, Int.reduceBNe, Int.reduceBEq]
  refine .flat _ (F77 w a i hi h0 h5) rfl ?_
  simp only [typR, useR, okR, e_fin, bR, Nat.reduceEqDiff, reduceIte, Int.reduceBNe, Int.reduceBEq]
  refine .flat _ (F77 w b i hi k0 k5) rfl ?_
  simp only [okR, List.append_nil, bR, Nat.reduceEqDiff, reduceIte, Int.reduceBNe, Int.reduceBEq]
  refine .flat _ (F78 _ _) rfl ?_
  simp only [bR, Nat.reduceEqDiff, reduceIte, Int.reduceBNe, Int.reduceBEq]
  refine .done (hK _ ?_); clear hK K; simp only [thenQ, blockQ]
  refine AW.ret ?_
  simp only [blockQ, thenQ, bR, Nat.reduceEqDiff, reduceIte, Int.reduceBNe, Int.reduceBEq]
  simp [apartAt, bne]

theorem stR3_f {A : AState} {n : Nat} {b : AV} {f : FuncId} {caps : List AV} {rest : List G} : stR3 A none n [] b (.func f caps) rest (some .nilf) = aops rest (A.setO n (.box (b.setAt [] (.func f caps)))) := stR3_ok rfl rfl (by simp [AV.sh])

theorem F88 (w : Arr 5 Int) (m r : Arr 6 Int) (hm : okMark m = true) : Ctr Try.prog 88 [enc w, enc m, enc r] (enc (costOf w m r)) := by
  refine Ctr.mk' Try.func88 ca88 cc88 cr88 (Nat.le_of_ble_eq_true rfl) (fun hwf W0 D0 E1 => ?_)
  simp only [c88, r88, idx, Nat.zero_add, Nat.reduceAdd]
  refine AW.seq (AW.reg cd88_0 fun K hK => ?_)
  simp only [g88_0, bR, Nat.reduceEqDiff, reduceIte, Int.reduceBNe, Int.reduceBEq]
  simp only [e_isVal, bR, Nat.reduceEqDiff, reduceIte, Int.reduceBNe, Int.reduceBEq]
  refine .done (hK _ ?_); clear hK K; simp only [thenQ, blockQ]
  refine AW.seq (AW.reg cd88_1 fun K hK => ?_)
  simp only [g88_1, bR, Nat.reduceEqDiff, reduceIte, Int.reduceBNe, Int.reduceBEq]
  simp only [stR3_f, bR, Nat.reduceEqDiff, reduceIte, Int.reduceBNe, Int.reduceBEq]
  refine .done (hK _ ?_); clear hK K; simp only [thenQ, blockQ]
  refine AW.seq (AW.reg cd88_2 fun K hK => ?_)
  simp only [g88_2, bR, Nat.reduceEqDiff, reduceIte, Int.reduceBNe, Int.reduceBEq]
  simp only [List.all_cons, List.all_nil, AV.isVal, Bool.and_self, e_closed, bR, Nat.reduceEqDiff, reduceIte, Int.reduceBNe, Int.reduceBEq]
  refine .flat _ (F111 113 [.ref (.func 78 []), .ref (enc w), .ref (enc m), .ref (enc r)] ?_ (fun i => !costAt w m r i) (fun i hi => F113 w m r hm i hi)) rfl ?_
  · simp only [AV.dones, AV.done, AV.closed, AV.closeds, e_closed, Bool.and_self]
  simp only [bR, Nat.reduceEqDiff, reduceIte, Int.reduceBNe, Int.reduceBEq]
  refine .done (hK _ ?_); clear hK K; simp only [thenQ, blockQ]
  refine AW.ret ?_
  simp only [blockQ, thenQ, bR, Nat.reduceEqDiff, reduceIte, Int.reduceBNe, Int.reduceBEq]
  simp only [costOf, Bool.not_not]

theorem F87 (w : Arr 5 Int) (a b : Arr 6 Int) (ha : okMark a = true) (hb : okMark b = true) : Ctr Try.prog 87 [enc w, enc a, enc b] (enc (cnt (apartAt w a b) 6 : Int)) := by
  refine Ctr.mk' Try.func87 ca87 cc87 cr87 (Nat.le_of_ble_eq_true rfl) (fun hwf W0 D0 E1 => ?_)
  simp only [c87, r87, idx, Nat.zero_add, Nat.reduceAdd]
  refine AW.seq (AW.reg cd87_0 fun K hK => ?_)
  simp only [g87_0, bR, Nat.reduceEqDiff, reduceIte, Int.reduceBNe, Int.reduceBEq]
  simp only [e_isVal, bR, Nat.reduceEqDiff, reduceIte, Int.reduceBNe, Int.reduceBEq]
  refine .done (hK _ ?_); clear hK K; simp only [thenQ, blockQ]
  refine AW.seq (AW.reg cd87_1 fun K hK => ?_)
  simp only [g87_1, bR, Nat.reduceEqDiff, reduceIte, Int.reduceBNe, Int.reduceBEq]
  simp only [stR3_f, bR, Nat.reduceEqDiff, reduceIte, Int.reduceBNe, Int.reduceBEq]
  refine .done (hK _ ?_); clear hK K; simp only [thenQ, blockQ]
  refine AW.seq (AW.reg cd87_2 fun K hK => ?_)
  simp only [g87_2, bR, Nat.reduceEqDiff, reduceIte, Int.reduceBNe, Int.reduceBEq]
  simp only [List.all_cons, List.all_nil, AV.isVal, Bool.and_self, e_closed, bR, Nat.reduceEqDiff, reduceIte, Int.reduceBNe, Int.reduceBEq]
  refine .flat _ (F111 112 [.ref (.func 78 []), .ref (enc w), .ref (enc a), .ref (enc b)] ?_ (fun i => !apartAt w a b i) (fun i hi => F112 w a b ha hb i hi)) rfl ?_
  · simp only [AV.dones, AV.done, AV.closed, AV.closeds, e_closed, Bool.and_self]
  simp only [bR, Nat.reduceEqDiff, reduceIte, Int.reduceBNe, Int.reduceBEq]
  refine .done (hK _ ?_); clear hK K; simp only [thenQ, blockQ]
  refine AW.ret ?_
  simp only [blockQ, thenQ, bR, Nat.reduceEqDiff, reduceIte, Int.reduceBNe, Int.reduceBEq]
  simp only [Bool.not_not]

end Go.Proofs.Ytkjkbpgdpnapfaa

/-
  FUNCTIONS OF THE PACKAGE mark BY CONTRACT: IndexFunc and ContainsFunc over given marks; isApart; Check; first.
-/
namespace Go.Proofs.Ytkjkbpgdpnapfaa
open Go Go.Abs
open Go.Abs.Enc (enc)

theorem F120 (m : Marks) (g : Given) (k : Arr 6 Int) (hg : okMark g.mark = true) (hk : okMark k = true) : Ctr Try.prog 120 (enc g :: [.ref (enc m), .ref (enc k)]) (enc (tooNear m g.mark k)) := by
  refine Ctr.mk' Try.func120 ca120 cc120 cr120 (Nat.le_of_ble_eq_true rfl) (fun hwf W0 D0 E1 => ?_)
  simp only [c120, r120, idx, Nat.zero_add, Nat.reduceAdd]
  refine AW.seq (AW.reg cd120_0 fun K hK => ?_)
  simp only [g120_0, bR, Nat.reduceEqDiff, reduceIte, Int.reduceBNe, Int.reduceBEq]
  simp only [e_isVal, bR, Nat.reduceEqDiff, reduceIte, Int.reduceBNe, Int.reduceBEq]
  refine .done (hK _ ?_); clear hK K; simp only [thenQ, blockQ]
  refine AW.seq (AW.reg cd120_1 fun K hK => ?_)
  simp only [g120_1, bR, Nat.reduceEqDiff, reduceIte, Int.reduceBNe, Int.reduceBEq]
  simp only [typR, useR, okR, e_fin, bR, Nat.reduceEqDiff, reduceIte, Int.reduceBNe, Int.reduceBEq]
  refine .flat _ (F87 m.wear g.mark k hg hk) rfl ?_
  simp only [typR, useR, okR, bR, Nat.reduceEqDiff, reduceIte, Int.reduceBNe, Int.reduceBEq]
  refine .done (hK _ ?_); clear hK K; simp only [thenQ, blockQ]
  refine AW.ret ?_
  simp only [blockQ, thenQ, bR, Nat.reduceEqDiff, reduceIte, Int.reduceBNe, Int.reduceBEq]
  rfl

theorem F108 (l : List Given) (f : FuncId) (caps : List AV) (hcaps : AV.dones caps = true) (p : Given → Bool) (hf : ∀ x ∈ l, Ctr Try.prog f (enc x :: caps) (enc (p x))) : Ctr Try.prog 108 [enc l, .func f caps] (enc (match l.findIdx? p with | some i => (i : Int) | none => -1)) := by
  refine Ctr.mk' Try.func108 ca108 cc108 cr108 (Nat.le_of_ble_eq_true rfl) (fun hwf W0 D0 E1 => ?_)
  simp only [c108, r108, idx, Nat.zero_add, Nat.reduceAdd]
  have hlen : l.length ≤ maxLen := ((wf_list l).1 hwf.1).1
  simp only [maxLen] at hlen
  have hcl : AV.closeds caps = true := dones_closed caps hcaps
  have hfc : ∀ bx A, fins bx A caps = some caps := fun bx A => fins_dones bx A caps hcaps
  have hon : ∀ q, AV.onlys q caps = true := fun q => onlys_closed q caps hcl
  refine AW.seq (AW.reg cd108_0 fun K hK => ?_)
  simp only [g108_0, bR, Nat.reduceEqDiff, reduceIte, Int.reduceBNe, Int.reduceBEq]
  refine .done (hK _ ?_); clear hK K; simp only [thenQ, blockQ]
  refine AW.seq ?_
  refine AW.seq (AW.reg cd108_1 fun K hK => ?_)
  simp only [g108_1, useR, bR, Nat.reduceEqDiff, reduceIte, Int.reduceBNe, Int.reduceBEq]
  refine .done (hK _ ?_); clear hK K; simp only [thenQ, blockQ]
  refine AW.block (AW.loop (fun i : Nat => mkA [(0, enc l), (1, .func f caps), (7, .int .i64 l.length), (8, .int .i64 i)] []) (fun i => i ≤ l.length ∧ ∀ x ∈ l.take i, p x = false) (fun i => l.length - i) 0 ⟨Nat.zero_le _, by simp⟩ ?_ (fun i hi => ?_))
  · refine Sub.of_lists ?_ ?_ ?_ ?_ <;> simp [subT, subO, onlyT, onlyO, isIn, look_cons, lookO_cons, lookO_nil, AV.only, AV.onlys, AO.only, onlys_map, onlys_append, e_only, e_int, e_bool, hon]
  · refine AW.seq (AW.reg cd108_2 fun K hK => ?_)
    simp only [g108_2, bR, Nat.reduceEqDiff, reduceIte, Int.reduceBNe, Int.reduceBEq]
    refine .done (hK _ ?_); clear hK K; simp only [thenQ, blockQ]
    refine AW.seq ?_
    refine AW.ite ?_
    simp only [condQ, bR, Nat.reduceEqDiff, reduceIte, Int.reduceBNe, Int.reduceBEq]
    refine ⟨fun h => ?_, fun h => ?_⟩
    · have hlt : i < l.length := by simpa using h
      refine AW.skip ?_; simp only [thenQ, blockQ, reduceIte, Nat.reduceEqDiff]
      refine AW.seq (AW.block ?_)
      refine AW.seq (AW.reg cd108_3 fun K hK => ?_)
      simp only [g108_3, bR, Nat.reduceEqDiff, reduceIte, Int.reduceBNe, Int.reduceBEq]
      refine .done (hK _ ?_); clear hK K; simp only [thenQ, blockQ]
      refine AW.seq (AW.reg cd108_4 fun K hK => ?_)
      simp only [g108_4, bR, Nat.reduceEqDiff, reduceIte, Int.reduceBNe, Int.reduceBEq]
      simp only [isE_nat 7 hlt rfl, typR, okR, List.cons_append, hfc, e_fin, bR, Nat.reduceEqDiff, reduceIte, Int.reduceBNe, Int.reduceBEq]
      refine .flat _ (hf _ (List.getElem_mem hlt)) rfl ?_
      simp only [bR, Nat.reduceEqDiff, reduceIte, Int.reduceBNe, Int.reduceBEq]
      refine .done (hK _ ?_); clear hK K; simp only [thenQ, blockQ]
      refine AW.ite ?_
      simp only [condQ, bR, Nat.reduceEqDiff, reduceIte, Int.reduceBNe, Int.reduceBEq]
      refine ⟨fun h => ?_, fun h => ?_⟩
      · refine AW.seq (AW.reg cd108_5 fun K hK => ?_)
        simp only [g108_5, bR, Nat.reduceEqDiff, reduceIte, Int.reduceBNe, Int.reduceBEq]
        refine .done (hK _ ?_); clear hK K; simp only [thenQ, blockQ]
        refine AW.ret ?_
        simp only [blockQ, thenQ, bR, Nat.reduceEqDiff, reduceIte, Int.reduceBNe, Int.reduceBEq]
        simp [findIdx?_some_at hlt hi.2 h]
      · refine AW.skip ?_; simp only [thenQ, blockQ, reduceIte, Nat.reduceEqDiff]
        refine AW.reg cd108_6 fun K hK => ?_
        simp only [g108_6, bR, Nat.reduceEqDiff, reduceIte, Int.reduceBNe, Int.reduceBEq]
        refine .done (hK _ ?_); clear hK K; simp only [thenQ, blockQ]
        refine ⟨i + 1, ⟨by omega, fun x hm => ?_⟩, by omega, ?_⟩
        · rw [List.take_succ_eq_append_getElem hlt] at hm
          rcases List.mem_append.1 hm with hm | hm
          · exact hi.2 x hm
          · simp at hm; rw [hm]; exact h
        · rw [wrap_id _ (by omega) (by omega)]
          refine Sub.of_lists ?_ ?_ ?_ ?_ <;> simp [subT, subO, onlyT, onlyO, isIn, look_cons, lookO_cons, lookO_nil, AV.only, AV.onlys, AO.only, onlys_map, onlys_append, e_only, e_int, e_bool, hon]
    · have hge : i = l.length := by simp at h; omega
      refine AW.exit ?_; simp only [thenQ, blockQ, reduceIte, Nat.reduceEqDiff]
      refine AW.seq (AW.reg cd108_7 fun K hK => ?_)
      simp only [g108_7, bR, Nat.reduceEqDiff, reduceIte, Int.reduceBNe, Int.reduceBEq]
      refine .done (hK _ ?_); clear hK K; simp only [thenQ, blockQ]
      refine AW.ret ?_
      simp only [blockQ, thenQ, bR, Nat.reduceEqDiff, reduceIte, Int.reduceBNe, Int.reduceBEq]
      simp [hge] at hi
      simp [findIdx?_none_take hi]

theorem findIdx?_any {α : Type} (p : α → Bool) (l : List α) : decide (0 ≤ (match l.findIdx? p with | some i => (i : Int) | none => -1)) = l.any p := by
  cases h : l.findIdx? p with
  | none =>
    rw [List.findIdx?_eq_none_iff] at h
    have : l.any p = false := by rw [List.any_eq_false]; intro x hx; simp [h x hx]
    simp [this]
  | some i =>
    rw [List.findIdx?_eq_some_iff_getElem] at h
    obtain ⟨h1, h2, _⟩ := h
    have : l.any p = true := by rw [List.any_eq_true]; exact ⟨_, List.getElem_mem h1, h2⟩
    rw [this]
    exact decide_eq_true (Int.natCast_nonneg i)

theorem F119 (l : List Given) (f : FuncId) (caps : List AV) (hcaps : AV.dones caps = true) (p : Given → Bool) (hf : ∀ x ∈ l, Ctr Try.prog f (enc x :: caps) (enc (p x))) : Ctr Try.prog 119 [enc l, .func f caps] (enc (l.any p)) := by
  refine Ctr.mk' Try.func119 ca119 cc119 cr119 (Nat.le_of_ble_eq_true rfl) (fun hwf W0 D0 E1 => ?_)
  simp only [c119, r119, idx, Nat.zero_add, Nat.reduceAdd]
  have hcl : AV.closeds caps = true := dones_closed caps hcaps
  have hfc : ∀ bx A, fins bx A caps = some caps := fun bx A => fins_dones bx A caps hcaps
  refine AW.seq (AW.reg cd119_0 fun K hK => ?_)
  simp only [g119_0, bR, Nat.reduceEqDiff, reduceIte, Int.reduceBNe, Int.reduceBEq]
  refine .done (hK _ ?_); clear hK K; simp only [thenQ, blockQ]
  refine AW.seq (AW.reg cd119_1 fun K hK => ?_)
  simp only [g119_1, bR, Nat.reduceEqDiff, reduceIte, Int.reduceBNe, Int.reduceBEq]
  simp only [e_fin, hfc, bR, Nat.reduceEqDiff, reduceIte, Int.reduceBNe, Int.reduceBEq]
  refine .flat _ (F108 l f caps hcaps p hf) rfl ?_
  simp only [bR, Nat.reduceEqDiff, reduceIte, Int.reduceBNe, Int.reduceBEq]
  refine .done (hK _ ?_); clear hK K; simp only [thenQ, blockQ]
  refine AW.ret ?_
  simp only [blockQ, thenQ, bR, Nat.reduceEqDiff, reduceIte, Int.reduceBNe, Int.reduceBEq]
  rw [findIdx?_any]

theorem F98 (m : Marks) (l : List Given) (k : Arr 6 Int) (hl : ∀ g ∈ l, okMark g.mark = true) (hk : okMark k = true) : Ctr Try.prog 98 [enc m, enc l, enc k] (enc (!l.any fun g => tooNear m g.mark k)) := by
  refine Ctr.mk' Try.func98 ca98 cc98 cr98 (Nat.le_of_ble_eq_true rfl) (fun hwf W0 D0 E1 => ?_)
  simp only [c98, r98, idx, Nat.zero_add, Nat.reduceAdd]
  refine AW.seq (AW.reg cd98_0 fun K hK => ?_)
  simp only [g98_0, bR, Nat.reduceEqDiff, reduceIte, Int.reduceBNe, Int.reduceBEq]
  simp only [e_isVal, bR, Nat.reduceEqDiff, reduceIte, Int.reduceBNe, Int.reduceBEq]
  refine .done (hK _ ?_); clear hK K; simp only [thenQ, blockQ]
  refine AW.seq (AW.reg cd98_1 fun K hK => ?_)
  simp only [g98_1, bR, Nat.reduceEqDiff, reduceIte, Int.reduceBNe, Int.reduceBEq]
  simp only [List.all_cons, List.all_nil, AV.isVal, Bool.and_self, e_closed, e_fin, bR, Nat.reduceEqDiff, reduceIte, Int.reduceBNe, Int.reduceBEq]
  refine .flat _ (F119 l 120 [.ref (enc m), .ref (enc k)] ?_ (fun g => tooNear m g.mark k) (fun g hg => F120 m g k (hl g hg) hk)) rfl ?_
  · simp only [AV.dones, AV.done, e_closed, Bool.and_self]
  simp only [bR, Nat.reduceEqDiff, reduceIte, Int.reduceBNe, Int.reduceBEq]
  refine .done (hK _ ?_); clear hK K; simp only [thenQ, blockQ]
  refine AW.ret ?_
  simp only [blockQ, thenQ, bR, Nat.reduceEqDiff, reduceIte, Int.reduceBNe, Int.reduceBEq]

theorem slE_take {α : Type} [Enc α] {A : AState} (esz : Nat) {l : List α} {i : Nat} (h : i ≤ l.length) (hs : Enc.sz α = esz) : slE A esz none (some (.int .i64 i)) none (enc l) = some (enc (l.take i)) := by
  simp only [slE, e_list, hs, if_true, sliceOf, bound, List.length_map]
  rw [if_pos ⟨by omega, by omega, by omega, by omega⟩]
  simp

theorem any_take (m : Marks) (k : Arr 6 Int) {i : Nat} (h : i ≤ m.given.length) : (!(m.given.take i).any fun g => tooNear m g.mark k) = (List.range i).all (fun j => !tooNear m (gv m j).mark k) := by
  rw [Bool.eq_iff_iff]
  simp only [Bool.not_eq_true', List.any_eq_false, List.all_eq_true, List.mem_range]
  constructor
  · intro h1 j hj
    have hjl : j < m.given.length := by omega
    have := h1 m.given[j] (by rw [List.mem_take_iff_getElem]; exact ⟨j, by omega, rfl⟩)
    rw [gv_eq hjl] at this
    simpa using this
  · intro h1 g hg
    rw [List.mem_take_iff_getElem] at hg
    obtain ⟨j, hj, rfl⟩ := hg
    have hjl : j < m.given.length := by omega
    rw [gv_eq hjl]
    simpa using h1 j (by omega)

theorem F47 (m : Marks) : Ctr Try.prog 47 [enc m] (enc (if okM m then (0 : Int) else 13)) := by
  refine Ctr.mk' Try.func47 ca47 cc47 cr47 (Nat.le_of_ble_eq_true rfl) (fun hwf W0 D0 E1 => ?_)
  simp only [c47, r47, idx, Nat.zero_add, Nat.reduceAdd]
  refine AW.seq (AW.reg cd47_0 fun K hK => ?_)
  simp only [g47_0, bR, Nat.reduceEqDiff, reduceIte, Int.reduceBNe, Int.reduceBEq]
  simp only [e_isVal, bR, Nat.reduceEqDiff, reduceIte, Int.reduceBNe, Int.reduceBEq]
  refine .done (hK _ ?_); clear hK K; simp only [thenQ, blockQ]
  refine AW.seq (AW.seq ?_)
  refine AW.reg cd47_1 fun K hK => ?_
  simp only [g47_1, bR, Nat.reduceEqDiff, reduceIte, Int.reduceBNe, Int.reduceBEq]
  simp only [typR, useR, okR, e_fin, bR, Nat.reduceEqDiff, reduceIte, Int.reduceBNe, Int.reduceBEq]
  refine .flat _ (F95 m.wear) rfl ?_
  generalize hw : okWear m.wear = bw
  cases bw
  · simp only [typR, useR, okR, bR, Nat.reduceEqDiff, reduceIte, Int.reduceBNe, Int.reduceBEq]
    refine .done (hK _ ?_); clear hK K; simp only [thenQ, blockQ]
    refine AW.ite ?_
    simp only [condQ, bR, Nat.reduceEqDiff, reduceIte, Int.reduceBNe, Int.reduceBEq]
    refine ⟨fun h => ?_, fun h => ?_⟩
    · refine AW.seq (AW.reg cd47_2 fun K hK => ?_)
      simp only [g47_2, bR, Nat.reduceEqDiff, reduceIte, Int.reduceBNe, Int.reduceBEq]
      refine .done (hK _ ?_); clear hK K; simp only [thenQ, blockQ]
      refine AW.ret ?_
      simp only [blockQ, thenQ, bR, Nat.reduceEqDiff, reduceIte, Int.reduceBNe, Int.reduceBEq]
      simp [okM, hw]
    · cases h
  simp only [typR, useR, okR, bR, Nat.reduceEqDiff, reduceIte, Int.reduceBNe, Int.reduceBEq]
  refine .flat _ (F89 m.fls 0 2) rfl ?_
  generalize hf : inR 0 2 m.fls = bf
  cases bf
  · simp only [typR, useR, okR, bR, Nat.reduceEqDiff, reduceIte, Int.reduceBNe, Int.reduceBEq]
    refine .done (hK _ ?_); clear hK K; simp only [thenQ, blockQ]
    refine AW.ite ?_
    simp only [condQ, bR, Nat.reduceEqDiff, reduceIte, Int.reduceBNe, Int.reduceBEq]
    refine ⟨fun h => ?_, fun h => ?_⟩
    · refine AW.seq (AW.reg cd47_2 fun K hK => ?_)
      simp only [g47_2, bR, Nat.reduceEqDiff, reduceIte, Int.reduceBNe, Int.reduceBEq]
      refine .done (hK _ ?_); clear hK K; simp only [thenQ, blockQ]
      refine AW.ret ?_
      simp only [blockQ, thenQ, bR, Nat.reduceEqDiff, reduceIte, Int.reduceBNe, Int.reduceBEq]
      simp [okM, hw, hf]
    · cases h
  simp only [typR, useR, okR, bR, Nat.reduceEqDiff, reduceIte, Int.reduceBNe, Int.reduceBEq]
  refine .done (hK _ ?_); clear hK K; simp only [thenQ, blockQ]
  refine AW.ite ?_
  simp only [condQ, bR, Nat.reduceEqDiff, reduceIte, Int.reduceBNe, Int.reduceBEq]
  refine ⟨fun h => ?_, fun h => ?_⟩
  · refine AW.seq (AW.reg cd47_2 fun K hK => ?_)
    simp only [g47_2, bR, Nat.reduceEqDiff, reduceIte, Int.reduceBNe, Int.reduceBEq]
    refine .done (hK _ ?_); clear hK K; simp only [thenQ, blockQ]
    refine AW.ret ?_
    simp only [blockQ, thenQ, bR, Nat.reduceEqDiff, reduceIte, Int.reduceBNe, Int.reduceBEq]
    have : ¬ m.given.length ≤ 40 := by simp at h; omega
    simp [okM, hw, hf, this]
  have hlen : m.given.length ≤ 40 := by simp at h; omega
  refine AW.skip ?_; simp only [thenQ, blockQ, reduceIte, Nat.reduceEqDiff]
  refine AW.seq (AW.seq ?_)
  refine AW.reg cd47_3 fun K hK => ?_
  simp only [g47_3, typR, useR, okR, bR, Nat.reduceEqDiff, reduceIte, Int.reduceBNe, Int.reduceBEq]
  refine .done (hK _ ?_); clear hK K; simp only [thenQ, blockQ]
  refine AW.block (AW.loop (fun i : Nat => mkA [(1, .ptr 1 []), (22, enc m.given), (23, .int .i64 m.given.length), (24, .int .i64 i)] [(1, .box (enc m))]) (fun i => i ≤ m.given.length ∧ ∀ j, j < i → okAt m j = true) (fun i => m.given.length - i) 0 ⟨by omega, fun k h => by omega⟩ ?_ (fun i hi => ?_))
  · refine Sub.of_lists ?_ ?_ ?_ ?_ <;> simp [subT, subO, onlyT, onlyO, isIn, look_cons, lookO_cons, lookO_nil, AV.only, AV.onlys, AO.only, onlys_map, onlys_append, e_only, e_int, e_bool]
  refine AW.seq (AW.reg cd47_4 fun K hK => ?_)
  simp only [g47_4, bR, Nat.reduceEqDiff, reduceIte, Int.reduceBNe, Int.reduceBEq]
  refine .done (hK _ ?_); clear hK K; simp only [thenQ, blockQ]
  refine AW.seq ?_
  refine AW.ite ?_
  simp only [condQ, bR, Nat.reduceEqDiff, reduceIte, Int.reduceBNe, Int.reduceBEq]
  refine ⟨fun h => ?_, fun h => ?_⟩
  case refine_2.refine_2 =>
    have hge : i = m.given.length := by simp at h; omega
    subst hge
    refine AW.exit ?_; simp only [thenQ, blockQ, reduceIte, Nat.reduceEqDiff]
    refine AW.seq (AW.reg cd47_9 fun K hK => ?_)
    simp only [g47_9, bR, Nat.reduceEqDiff, reduceIte, Int.reduceBNe, Int.reduceBEq]
    refine .done (hK _ ?_); clear hK K; simp only [thenQ, blockQ]
    refine AW.ret ?_
    simp only [blockQ, thenQ, bR, Nat.reduceEqDiff, reduceIte, Int.reduceBNe, Int.reduceBEq]
    have : (List.range m.given.length).all (okAt m) = true := all_true hi.2
    simp [okM, hw, hf, this, hlen]
  have hlt : i < m.given.length := by simpa using h
  refine AW.skip ?_; simp only [thenQ, blockQ, reduceIte, Nat.reduceEqDiff]
  refine AW.seq (AW.block ?_)
  refine AW.seq (AW.reg cd47_5 fun K hK => ?_)
  simp only [g47_5, bR, Nat.reduceEqDiff, reduceIte, Int.reduceBNe, Int.reduceBEq]
  simp only [typR, useR, okR, isE_gv hlt, bR, Nat.reduceEqDiff, reduceIte, Int.reduceBNe, Int.reduceBEq]
  rw [stR3_ok (e_isVal _) (by rw [e_okS]; rfl) ((e_sh _).trans rfl)]
  simp only [typR, useR, okR, bR, Nat.reduceEqDiff, reduceIte, Int.reduceBNe, Int.reduceBEq]
  refine .done (hK _ ?_); clear hK K; simp only [thenQ, blockQ]
  have bad : ∀ b, okAt m i = b → b = false → (if okM m then (0 : Int) else 13) = 13 := fun b h1 h2 => by
    have : (List.range m.given.length).all (okAt m) = false := all_false i hlt (by rw [h1, h2])
    simp [okM, this]
  have htake : ∀ g ∈ m.given.take i, okMark g.mark = true := fun g hg => by
    rw [List.mem_take_iff_getElem] at hg
    obtain ⟨j, hj, rfl⟩ := hg
    have hjl : j < m.given.length := by omega
    rw [gv_eq hjl]
    exact okAt_mark (hi.2 j (by omega))
  refine AW.seq (AW.reg cd47_6 fun K hK => ?_)
  simp only [g47_6, bR, Nat.reduceEqDiff, reduceIte, Int.reduceBNe, Int.reduceBEq]
  simp only [typR, useR, okR, e_fin, bR, Nat.reduceEqDiff, reduceIte, Int.reduceBNe, Int.reduceBEq]
  refine .flat _ (F97 (gv m i).owner) rfl ?_
  generalize ho : inR 1 99 (gv m i).owner = bo
  cases bo
  · simp only [typR, useR, okR, bR, Nat.reduceEqDiff, reduceIte, Int.reduceBNe, Int.reduceBEq]
    refine .done (hK _ ?_); clear hK K; simp only [thenQ, blockQ]
    refine AW.ite ?_
    simp only [condQ, bR, Nat.reduceEqDiff, reduceIte, Int.reduceBNe, Int.reduceBEq]
    refine ⟨fun h => ?_, fun h => ?_⟩
    · refine AW.seq (AW.reg cd47_7 fun K hK => ?_)
      simp only [g47_7, bR, Nat.reduceEqDiff, reduceIte, Int.reduceBNe, Int.reduceBEq]
      refine .done (hK _ ?_); clear hK K; simp only [thenQ, blockQ]
      refine AW.ret ?_
      simp only [blockQ, thenQ, bR, Nat.reduceEqDiff, reduceIte, Int.reduceBNe, Int.reduceBEq]
      rw [bad _ rfl (by simp [okAt, ho])]
    · cases h
  simp only [typR, useR, okR, e_fin, bR, Nat.reduceEqDiff, reduceIte, Int.reduceBNe, Int.reduceBEq]
  refine .flat _ (F93 (gv m i).mark) rfl ?_
  generalize hk : okMark (gv m i).mark = bk
  cases bk
  · simp only [typR, useR, okR, bR, Nat.reduceEqDiff, reduceIte, Int.reduceBNe, Int.reduceBEq]
    refine .done (hK _ ?_); clear hK K; simp only [thenQ, blockQ]
    refine AW.ite ?_
    simp only [condQ, bR, Nat.reduceEqDiff, reduceIte, Int.reduceBNe, Int.reduceBEq]
    refine ⟨fun h => ?_, fun h => ?_⟩
    · refine AW.seq (AW.reg cd47_7 fun K hK => ?_)
      simp only [g47_7, bR, Nat.reduceEqDiff, reduceIte, Int.reduceBNe, Int.reduceBEq]
      refine .done (hK _ ?_); clear hK K; simp only [thenQ, blockQ]
      refine AW.ret ?_
      simp only [blockQ, thenQ, bR, Nat.reduceEqDiff, reduceIte, Int.reduceBNe, Int.reduceBEq]
      rw [bad _ rfl (by simp [okAt, ho, hk])]
    · cases h
  simp only [typR, useR, okR, bR, Nat.reduceEqDiff, reduceIte, Int.reduceBNe, Int.reduceBEq]
  generalize hz : decide (0 < (i : Int)) = bz
  cases bz
  · have hprev : (i == 0 || decide ((gv m (i - 1)).owner < (gv m i).owner)) = true := by simp at hz; simp [hz]
    simp only [typR, useR, okR, bR, Nat.reduceEqDiff, reduceIte, Int.reduceBNe, Int.reduceBEq]
    simp only [typR, useR, okR, e_fin, slE_take 7 (Nat.le_of_lt hlt) rfl, Option.map_none, bR, Nat.reduceEqDiff, reduceIte, Int.reduceBNe, Int.reduceBEq]
    refine .flat _ (F98 m (m.given.take i) (gv m i).mark htake hk) rfl ?_
    rw [any_take m (gv m i).mark (Nat.le_of_lt hlt)]
    generalize hap : (List.range i).all (fun j => !tooNear m (gv m j).mark (gv m i).mark) = ba
    cases ba
    · simp only [typR, useR, okR, bR, Nat.reduceEqDiff, reduceIte, Int.reduceBNe, Int.reduceBEq]
      refine .done (hK _ ?_); clear hK K; simp only [thenQ, blockQ]
      refine AW.ite ?_
      simp only [condQ, bR, Nat.reduceEqDiff, reduceIte, Int.reduceBNe, Int.reduceBEq]
      refine ⟨fun h => ?_, fun h => ?_⟩
      · refine AW.seq (AW.reg cd47_7 fun K hK => ?_)
        simp only [g47_7, bR, Nat.reduceEqDiff, reduceIte, Int.reduceBNe, Int.reduceBEq]
        refine .done (hK _ ?_); clear hK K; simp only [thenQ, blockQ]
        refine AW.ret ?_
        simp only [blockQ, thenQ, bR, Nat.reduceEqDiff, reduceIte, Int.reduceBNe, Int.reduceBEq]
        rw [bad _ rfl (by simp only [okAt, hap, Bool.and_false])]
      · cases h
    · simp only [typR, useR, okR, bR, Nat.reduceEqDiff, reduceIte, Int.reduceBNe, Int.reduceBEq]
      refine .done (hK _ ?_); clear hK K; simp only [thenQ, blockQ]
      refine AW.ite ?_
      simp only [condQ, bR, Nat.reduceEqDiff, reduceIte, Int.reduceBNe, Int.reduceBEq]
      refine ⟨fun h => ?_, fun h => ?_⟩
      · cases h
      refine AW.skip ?_; simp only [thenQ, blockQ, reduceIte, Nat.reduceEqDiff]
      refine AW.reg cd47_8 fun K hK => ?_
      simp only [g47_8, bR, Nat.reduceEqDiff, reduceIte, Int.reduceBNe, Int.reduceBEq]
      refine .done (hK _ ?_); clear hK K; simp only [thenQ, blockQ]
      refine ⟨i + 1, ⟨by omega, fun k hk' => ?_⟩, by omega, ?_⟩
      · by_cases hki : k = i
        · rw [hki]
          simp only [okAt, ho, hk, hprev, hap, Bool.and_self]
        · exact hi.2 k (by omega)
      · rw [wrap_id _ (by omega) (by omega)]
        refine Sub.of_lists ?_ ?_ ?_ ?_ <;> simp [subT, subO, onlyT, onlyO, isIn, look_cons, lookO_cons, lookO_nil, AV.only, AV.onlys, AO.only, onlys_map, onlys_append, e_only, e_int, e_bool]
  · have hpos : 0 < i := by simpa using hz
    have hpl : i - 1 < m.given.length := by omega
    have hpred : IntKind.i64.wrap ((i : Int) - 1) = ((i - 1 : Nat) : Int) := by rw [wrap_id _ (by omega) (by omega)]; omega
    simp only [typR, useR, okR, hpred, isE_gv hpl, bR, Nat.reduceEqDiff, reduceIte, Int.reduceBNe, Int.reduceBEq]
    generalize hq : decide ((gv m i).owner ≤ (gv m (i - 1)).owner) = bq
    cases bq
    · have hprev : (i == 0 || decide ((gv m (i - 1)).owner < (gv m i).owner)) = true := by simp at hq; simp; omega
      simp only [typR, useR, okR, bR, Nat.reduceEqDiff, reduceIte, Int.reduceBNe, Int.reduceBEq]
      simp only [typR, useR, okR, e_fin, slE_take 7 (Nat.le_of_lt hlt) rfl, Option.map_none, bR, Nat.reduceEqDiff, reduceIte, Int.reduceBNe, Int.reduceBEq]
      refine .flat _ (F98 m (m.given.take i) (gv m i).mark htake hk) rfl ?_
      rw [any_take m (gv m i).mark (Nat.le_of_lt hlt)]
      generalize hap : (List.range i).all (fun j => !tooNear m (gv m j).mark (gv m i).mark) = ba
      cases ba
      · simp only [typR, useR, okR, bR, Nat.reduceEqDiff, reduceIte, Int.reduceBNe, Int.reduceBEq]
        refine .done (hK _ ?_); clear hK K; simp only [thenQ, blockQ]
        refine AW.ite ?_
        simp only [condQ, bR, Nat.reduceEqDiff, reduceIte, Int.reduceBNe, Int.reduceBEq]
        refine ⟨fun h => ?_, fun h => ?_⟩
        · refine AW.seq (AW.reg cd47_7 fun K hK => ?_)
          simp only [g47_7, bR, Nat.reduceEqDiff, reduceIte, Int.reduceBNe, Int.reduceBEq]
          refine .done (hK _ ?_); clear hK K; simp only [thenQ, blockQ]
          refine AW.ret ?_
          simp only [blockQ, thenQ, bR, Nat.reduceEqDiff, reduceIte, Int.reduceBNe, Int.reduceBEq]
          rw [bad _ rfl (by simp only [okAt, hap, Bool.and_false])]
        · cases h
      · simp only [typR, useR, okR, bR, Nat.reduceEqDiff, reduceIte, Int.reduceBNe, Int.reduceBEq]
        refine .done (hK _ ?_); clear hK K; simp only [thenQ, blockQ]
        refine AW.ite ?_
        simp only [condQ, bR, Nat.reduceEqDiff, reduceIte, Int.reduceBNe, Int.reduceBEq]
        refine ⟨fun h => ?_, fun h => ?_⟩
        · cases h
        refine AW.skip ?_; simp only [thenQ, blockQ, reduceIte, Nat.reduceEqDiff]
        refine AW.reg cd47_8 fun K hK => ?_
        simp only [g47_8, bR, Nat.reduceEqDiff, reduceIte, Int.reduceBNe, Int.reduceBEq]
        refine .done (hK _ ?_); clear hK K; simp only [thenQ, blockQ]
        refine ⟨i + 1, ⟨by omega, fun k hk' => ?_⟩, by omega, ?_⟩
        · by_cases hki : k = i
          · rw [hki]
            simp only [okAt, ho, hk, hprev, hap, Bool.and_self]
          · exact hi.2 k (by omega)
        · rw [wrap_id _ (by omega) (by omega)]
          refine Sub.of_lists ?_ ?_ ?_ ?_ <;> simp [subT, subO, onlyT, onlyO, isIn, look_cons, lookO_cons, lookO_nil, AV.only, AV.onlys, AO.only, onlys_map, onlys_append, e_only, e_int, e_bool]
    · simp only [typR, useR, okR, bR, Nat.reduceEqDiff, reduceIte, Int.reduceBNe, Int.reduceBEq]
      refine .done (hK _ ?_); clear hK K; simp only [thenQ, blockQ]
      refine AW.ite ?_
      simp only [condQ, bR, Nat.reduceEqDiff, reduceIte, Int.reduceBNe, Int.reduceBEq]
      refine ⟨fun h => ?_, fun h => ?_⟩
      · refine AW.seq (AW.reg cd47_7 fun K hK => ?_)
        simp only [g47_7, bR, Nat.reduceEqDiff, reduceIte, Int.reduceBNe, Int.reduceBEq]
        refine .done (hK _ ?_); clear hK K; simp only [thenQ, blockQ]
        refine AW.ret ?_
        simp only [blockQ, thenQ, bR, Nat.reduceEqDiff, reduceIte, Int.reduceBNe, Int.reduceBEq]
        have : (i == 0 || decide ((gv m (i - 1)).owner < (gv m i).owner)) = false := by simp at hq; simp; omega
        rw [bad _ rfl (by simp only [okAt, this, Bool.and_false, Bool.false_and])]
      · cases h

end Go.Proofs.Ytkjkbpgdpnapfaa

/-
  FUNCTIONS OF THE PACKAGE mark BY CONTRACT: first, Cost, Distance, Possible, asked.
-/
namespace Go.Proofs.Ytkjkbpgdpnapfaa
open Go Go.Abs
open Go.Abs.Enc (enc)

def firstOf (l : List Int) : Int := (l.find? fun x => x != 0).getD 0

theorem F64 (l : List Int) : Ctr Try.prog 64 [enc l] (enc (firstOf l)) := by
  refine Ctr.mk' Try.func64 ca64 cc64 cr64 (Nat.le_of_ble_eq_true rfl) (fun hwf W0 D0 E1 => ?_)
  simp only [c64, r64, idx, Nat.zero_add, Nat.reduceAdd]
  have hlen : l.length ≤ maxLen := ((wf_list l).1 hwf.1).1
  simp only [maxLen] at hlen
  refine AW.seq (AW.reg cd64_0 fun K hK => ?_)
  simp only [g64_0, bR, Nat.reduceEqDiff, reduceIte, Int.reduceBNe, Int.reduceBEq]
  refine .done (hK _ ?_); clear hK K; simp only [thenQ, blockQ]
  refine AW.seq ?_
  refine AW.seq (AW.reg cd64_1 fun K hK => ?_)
  simp only [g64_1, useR, bR, Nat.reduceEqDiff, reduceIte, Int.reduceBNe, Int.reduceBEq]
  refine .done (hK _ ?_); clear hK K; simp only [thenQ, blockQ]
  refine AW.block (AW.loop (fun i : Nat => mkA [(5, enc l), (6, .int .i64 l.length), (7, .int .i64 i)] []) (fun i => i ≤ l.length ∧ ∀ x ∈ l.take i, x = 0) (fun i => l.length - i) 0 ⟨Nat.zero_le _, by simp⟩ ?_ (fun i hi => ?_))
  · refine Sub.of_lists ?_ ?_ ?_ ?_ <;> simp [subT, subO, onlyT, onlyO, isIn, look_cons, lookO_cons, lookO_nil, AV.only, AV.onlys, AO.only, onlys_map, onlys_append, e_only, e_int, e_bool]
  · refine AW.seq (AW.reg cd64_2 fun K hK => ?_)
    simp only [g64_2, bR, Nat.reduceEqDiff, reduceIte, Int.reduceBNe, Int.reduceBEq]
    refine .done (hK _ ?_); clear hK K; simp only [thenQ, blockQ]
    refine AW.seq ?_
    refine AW.ite ?_
    simp only [condQ, bR, Nat.reduceEqDiff, reduceIte, Int.reduceBNe, Int.reduceBEq]
    refine ⟨fun h => ?_, fun h => ?_⟩
    · have hlt : i < l.length := by simpa using h
      refine AW.skip ?_; simp only [thenQ, blockQ, reduceIte, Nat.reduceEqDiff]
      refine AW.seq (AW.block ?_)
      refine AW.seq (AW.reg cd64_3 fun K hK => ?_)
      simp only [g64_3, bR, Nat.reduceEqDiff, reduceIte, Int.reduceBNe, Int.reduceBEq]
      simp only [isE_nat 1 hlt rfl, okR, bR, Nat.reduceEqDiff, reduceIte, Int.reduceBNe, Int.reduceBEq]
      refine .done (hK _ ?_); clear hK K; simp only [thenQ, blockQ]
      refine AW.seq (AW.reg cd64_4 fun K hK => ?_)
      simp only [g64_4, bR, Nat.reduceEqDiff, reduceIte, Int.reduceBNe, Int.reduceBEq]
      refine .done (hK _ ?_); clear hK K; simp only [thenQ, blockQ]
      refine AW.ite ?_
      simp only [condQ, bR, Nat.reduceEqDiff, reduceIte, Int.reduceBNe, Int.reduceBEq]
      refine ⟨fun h => ?_, fun h => ?_⟩
      · refine AW.seq (AW.reg cd64_5 fun K hK => ?_)
        simp only [g64_5, bR, Nat.reduceEqDiff, reduceIte, Int.reduceBNe, Int.reduceBEq]
        refine .done (hK _ ?_); clear hK K; simp only [thenQ, blockQ]
        refine AW.ret ?_
        simp only [blockQ, thenQ, bR, Nat.reduceEqDiff, reduceIte, Int.reduceBNe, Int.reduceBEq]
        have h1 : l[i] ≠ 0 := by simpa using h
        have h2 : l.find? (fun x => x != 0) = some l[i] := by
          rw [List.find?_eq_some_iff_getElem]
          refine ⟨by simpa using h1, i, hlt, rfl, fun j hj => ?_⟩
          have := hi.2 l[j] (by rw [List.mem_take_iff_getElem]; exact ⟨j, by omega, rfl⟩)
          simp [this]
        simp [firstOf, h2]
      · refine AW.skip ?_; simp only [thenQ, blockQ, reduceIte, Nat.reduceEqDiff]
        refine AW.reg cd64_6 fun K hK => ?_
        simp only [g64_6, bR, Nat.reduceEqDiff, reduceIte, Int.reduceBNe, Int.reduceBEq]
        refine .done (hK _ ?_); clear hK K; simp only [thenQ, blockQ]
        refine ⟨i + 1, ⟨by omega, fun x hm => ?_⟩, by omega, ?_⟩
        · rw [List.take_succ_eq_append_getElem hlt] at hm
          rcases List.mem_append.1 hm with hm | hm
          · exact hi.2 x hm
          · simp at hm h; rw [hm]; exact h
        · rw [wrap_id _ (by omega) (by omega)]
          refine Sub.of_lists ?_ ?_ ?_ ?_ <;> simp [subT, subO, onlyT, onlyO, isIn, look_cons, lookO_cons, lookO_nil, AV.only, AV.onlys, AO.only, onlys_map, onlys_append, e_only, e_int, e_bool]
    · have hge : i = l.length := by simp at h; omega
      refine AW.exit ?_; simp only [thenQ, blockQ, reduceIte, Nat.reduceEqDiff]
      refine AW.seq (AW.reg cd64_7 fun K hK => ?_)
      simp only [g64_7, bR, Nat.reduceEqDiff, reduceIte, Int.reduceBNe, Int.reduceBEq]
      refine .done (hK _ ?_); clear hK K; simp only [thenQ, blockQ]
      refine AW.ret ?_
      simp only [blockQ, thenQ, bR, Nat.reduceEqDiff, reduceIte, Int.reduceBNe, Int.reduceBEq]
      simp [hge] at hi
      have h2 : l.find? (fun x => x != 0) = none := by
        rw [List.find?_eq_none]; intro x hx; simp [hi x hx]
      simp [firstOf, h2]

theorem bs2 (a b : Int) : bsE 1 (some [.int .i64 a, .int .i64 b]) = some (enc [a, b]) := bsE_enc (ys := [a, b]) 1 rfl
theorem bs3 (a b c : Int) : bsE 1 (some [.int .i64 a, .int .i64 b, .int .i64 c]) = some (enc [a, b, c]) := bsE_enc (ys := [a, b, c]) 1 rfl

theorem first3 (a b c : Bool) (x y z : Int) (hx : x ≠ 0) (hy : y ≠ 0) (hz : z ≠ 0) : firstOf [if a then 0 else x, if b then 0 else y, if c then 0 else z] = if a then (if b then (if c then 0 else z) else y) else x := by
  cases a <;> cases b <;> cases c <;> simp [firstOf, hx, hy, hz]
theorem first2 (a b : Bool) (x y : Int) (hx : x ≠ 0) (hy : y ≠ 0) : firstOf [if a then 0 else x, if b then 0 else y] = if a then (if b then 0 else y) else x := by
  cases a <;> cases b <;> simp [firstOf, hx, hy]

theorem F36 (w : Arr 5 Int) (a b : Arr 6 Int) : Ctr Try.prog 36 [enc w, enc a, enc b] (.tuple [enc (distR w a b).1, enc (distR w a b).2]) := by
  refine Ctr.mk' Try.func36 ca36 cc36 cr36 (Nat.le_of_ble_eq_true rfl) (fun hwf W0 D0 E1 => ?_)
  simp only [c36, r36, idx, Nat.zero_add, Nat.reduceAdd]
  refine AW.seq (AW.reg cd36_0 fun K hK => ?_)
  simp only [g36_0, bR, Nat.reduceEqDiff, reduceIte, Int.reduceBNe, Int.reduceBEq]
  simp only [e_isVal, bR, Nat.reduceEqDiff, reduceIte, Int.reduceBNe, Int.reduceBEq]
  refine .done (hK _ ?_); clear hK K; simp only [thenQ, blockQ]
  refine AW.seq ?_
  refine AW.seq (AW.reg cd36_1 fun K hK => ?_)
  simp only [g36_1, bR, Nat.reduceEqDiff, reduceIte, Int.reduceBNe, Int.reduceBEq]
  simp only [typR, useR, okR, e_fin, bR, Nat.reduceEqDiff, reduceIte, Int.reduceBNe, Int.reduceBEq]
  refine .flat _ (F43 w) rfl ?_
  simp only [typR, useR, okR, e_fin, bR, Nat.reduceEqDiff, reduceIte, Int.reduceBNe, Int.reduceBEq]
  refine .flat _ (F41 a) rfl ?_
  simp only [typR, useR, okR, e_fin, bR, Nat.reduceEqDiff, reduceIte, Int.reduceBNe, Int.reduceBEq]
  refine .flat _ (F41 b) rfl ?_
  simp only [typR, useR, okR, e_fin, bs3, bR, Nat.reduceEqDiff, reduceIte, Int.reduceBNe, Int.reduceBEq]
  refine .flat _ (F64 _) rfl ?_
  rw [first3 _ _ _ 11 10 10 (by decide) (by decide) (by decide)]
  simp only [bR, Nat.reduceEqDiff, reduceIte, Int.reduceBNe, Int.reduceBEq]
  refine .done (hK _ ?_); clear hK K; simp only [thenQ, blockQ]
  generalize hw : okWear w = bw
  generalize ha : okMark a = ba
  generalize hb : okMark b = bb
  cases bw
  · refine AW.seq (AW.reg cd36_2 fun K hK => ?_)
    simp only [g36_2, bR, Nat.reduceEqDiff, reduceIte, Int.reduceBNe, Int.reduceBEq]
    refine .done (hK _ ?_); clear hK K; simp only [thenQ, blockQ]
    refine AW.ite ?_
    simp only [condQ, bR, Nat.reduceEqDiff, reduceIte, Int.reduceBNe, Int.reduceBEq]
    refine ⟨fun h => ?_, fun h => ?_⟩
    · refine AW.seq (AW.reg cd36_3 fun K hK => ?_)
      simp only [g36_3, bR, Nat.reduceEqDiff, reduceIte, Int.reduceBNe, Int.reduceBEq]
      refine .done (hK _ ?_); clear hK K; simp only [thenQ, blockQ]
      refine AW.ret ?_
      simp only [blockQ, thenQ, bR, Nat.reduceEqDiff, reduceIte, Int.reduceBNe, Int.reduceBEq]
      simp [distR, hw]
    · cases h
  cases ba
  · refine AW.seq (AW.reg cd36_2 fun K hK => ?_)
    simp only [g36_2, bR, Nat.reduceEqDiff, reduceIte, Int.reduceBNe, Int.reduceBEq]
    refine .done (hK _ ?_); clear hK K; simp only [thenQ, blockQ]
    refine AW.ite ?_
    simp only [condQ, bR, Nat.reduceEqDiff, reduceIte, Int.reduceBNe, Int.reduceBEq]
    refine ⟨fun h => ?_, fun h => ?_⟩
    · refine AW.seq (AW.reg cd36_3 fun K hK => ?_)
      simp only [g36_3, bR, Nat.reduceEqDiff, reduceIte, Int.reduceBNe, Int.reduceBEq]
      refine .done (hK _ ?_); clear hK K; simp only [thenQ, blockQ]
      refine AW.ret ?_
      simp only [blockQ, thenQ, bR, Nat.reduceEqDiff, reduceIte, Int.reduceBNe, Int.reduceBEq]
      simp [distR, hw, ha]
    · cases h
  cases bb
  · refine AW.seq (AW.reg cd36_2 fun K hK => ?_)
    simp only [g36_2, bR, Nat.reduceEqDiff, reduceIte, Int.reduceBNe, Int.reduceBEq]
    refine .done (hK _ ?_); clear hK K; simp only [thenQ, blockQ]
    refine AW.ite ?_
    simp only [condQ, bR, Nat.reduceEqDiff, reduceIte, Int.reduceBNe, Int.reduceBEq]
    refine ⟨fun h => ?_, fun h => ?_⟩
    · refine AW.seq (AW.reg cd36_3 fun K hK => ?_)
      simp only [g36_3, bR, Nat.reduceEqDiff, reduceIte, Int.reduceBNe, Int.reduceBEq]
      refine .done (hK _ ?_); clear hK K; simp only [thenQ, blockQ]
      refine AW.ret ?_
      simp only [blockQ, thenQ, bR, Nat.reduceEqDiff, reduceIte, Int.reduceBNe, Int.reduceBEq]
      simp [distR, hw, ha, hb]
    · cases h
  refine AW.seq (AW.reg cd36_2 fun K hK => ?_)
  simp only [g36_2, bR, Nat.reduceEqDiff, reduceIte, Int.reduceBNe, Int.reduceBEq]
  refine .done (hK _ ?_); clear hK K; simp only [thenQ, blockQ]
  refine AW.ite ?_
  simp only [condQ, bR, Nat.reduceEqDiff, reduceIte, Int.reduceBNe, Int.reduceBEq]
  refine ⟨fun h => ?_, fun h => ?_⟩
  · cases h
  refine AW.skip ?_; simp only [thenQ, blockQ, reduceIte, Nat.reduceEqDiff]
  refine AW.seq (AW.reg cd36_4 fun K hK => ?_)
  simp only [g36_4, bR, Nat.reduceEqDiff, reduceIte, Int.reduceBNe, Int.reduceBEq]
  simp only [typR, useR, okR, e_fin, bR, Nat.reduceEqDiff, reduceIte, Int.reduceBNe, Int.reduceBEq]
  refine .flat _ (F87 w a b ha hb) rfl ?_
  simp only [bR, Nat.reduceEqDiff, reduceIte, Int.reduceBNe, Int.reduceBEq]
  refine .done (hK _ ?_); clear hK K; simp only [thenQ, blockQ]
  refine AW.ret ?_
  simp only [blockQ, thenQ, bR, Nat.reduceEqDiff, reduceIte, Int.reduceBNe, Int.reduceBEq]
  simp [distR, hw, ha, hb]

theorem F37 (w : Arr 5 Int) (a b : Arr 6 Int) : Ctr Try.prog 37 [enc w, enc a, enc b] (.tuple [enc (costR w a b).1, enc (costR w a b).2]) := by
  refine Ctr.mk' Try.func37 ca37 cc37 cr37 (Nat.le_of_ble_eq_true rfl) (fun hwf W0 D0 E1 => ?_)
  simp only [c37, r37, idx, Nat.zero_add, Nat.reduceAdd]
  refine AW.seq (AW.reg cd37_0 fun K hK => ?_)
  simp only [g37_0, bR, Nat.reduceEqDiff, reduceIte, Int.reduceBNe, Int.reduceBEq]
  simp only [e_isVal, bR, Nat.reduceEqDiff, reduceIte, Int.reduceBNe, Int.reduceBEq]
  refine .done (hK _ ?_); clear hK K; simp only [thenQ, blockQ]
  refine AW.seq ?_
  refine AW.seq (AW.reg cd37_1 fun K hK => ?_)
  simp only [g37_1, bR, Nat.reduceEqDiff, reduceIte, Int.reduceBNe, Int.reduceBEq]
  simp only [typR, useR, okR, e_fin, bR, Nat.reduceEqDiff, reduceIte, Int.reduceBNe, Int.reduceBEq]
  refine .flat _ (F43 w) rfl ?_
  simp only [typR, useR, okR, e_fin, bR, Nat.reduceEqDiff, reduceIte, Int.reduceBNe, Int.reduceBEq]
  refine .flat _ (F41 a) rfl ?_
  simp only [typR, useR, okR, e_fin, bR, Nat.reduceEqDiff, reduceIte, Int.reduceBNe, Int.reduceBEq]
  refine .flat _ (F45 b) rfl ?_
  simp only [typR, useR, okR, e_fin, bs3, bR, Nat.reduceEqDiff, reduceIte, Int.reduceBNe, Int.reduceBEq]
  refine .flat _ (F64 _) rfl ?_
  rw [first3 _ _ _ 11 10 12 (by decide) (by decide) (by decide)]
  simp only [bR, Nat.reduceEqDiff, reduceIte, Int.reduceBNe, Int.reduceBEq]
  refine .done (hK _ ?_); clear hK K; simp only [thenQ, blockQ]
  generalize hw : okWear w = bw
  generalize ha : okMark a = ba
  generalize hb : okReading b = bb
  cases bw
  · refine AW.seq (AW.reg cd37_2 fun K hK => ?_)
    simp only [g37_2, bR, Nat.reduceEqDiff, reduceIte, Int.reduceBNe, Int.reduceBEq]
    refine .done (hK _ ?_); clear hK K; simp only [thenQ, blockQ]
    refine AW.ite ?_
    simp only [condQ, bR, Nat.reduceEqDiff, reduceIte, Int.reduceBNe, Int.reduceBEq]
    refine ⟨fun h => ?_, fun h => ?_⟩
    · refine AW.seq (AW.reg cd37_3 fun K hK => ?_)
      simp only [g37_3, bR, Nat.reduceEqDiff, reduceIte, Int.reduceBNe, Int.reduceBEq]
      refine .done (hK _ ?_); clear hK K; simp only [thenQ, blockQ]
      refine AW.ret ?_
      simp only [blockQ, thenQ, bR, Nat.reduceEqDiff, reduceIte, Int.reduceBNe, Int.reduceBEq]
      simp [costR, hw]
    · cases h
  cases ba
  · refine AW.seq (AW.reg cd37_2 fun K hK => ?_)
    simp only [g37_2, bR, Nat.reduceEqDiff, reduceIte, Int.reduceBNe, Int.reduceBEq]
    refine .done (hK _ ?_); clear hK K; simp only [thenQ, blockQ]
    refine AW.ite ?_
    simp only [condQ, bR, Nat.reduceEqDiff, reduceIte, Int.reduceBNe, Int.reduceBEq]
    refine ⟨fun h => ?_, fun h => ?_⟩
    · refine AW.seq (AW.reg cd37_3 fun K hK => ?_)
      simp only [g37_3, bR, Nat.reduceEqDiff, reduceIte, Int.reduceBNe, Int.reduceBEq]
      refine .done (hK _ ?_); clear hK K; simp only [thenQ, blockQ]
      refine AW.ret ?_
      simp only [blockQ, thenQ, bR, Nat.reduceEqDiff, reduceIte, Int.reduceBNe, Int.reduceBEq]
      simp [costR, hw, ha]
    · cases h
  cases bb
  · refine AW.seq (AW.reg cd37_2 fun K hK => ?_)
    simp only [g37_2, bR, Nat.reduceEqDiff, reduceIte, Int.reduceBNe, Int.reduceBEq]
    refine .done (hK _ ?_); clear hK K; simp only [thenQ, blockQ]
    refine AW.ite ?_
    simp only [condQ, bR, Nat.reduceEqDiff, reduceIte, Int.reduceBNe, Int.reduceBEq]
    refine ⟨fun h => ?_, fun h => ?_⟩
    · refine AW.seq (AW.reg cd37_3 fun K hK => ?_)
      simp only [g37_3, bR, Nat.reduceEqDiff, reduceIte, Int.reduceBNe, Int.reduceBEq]
      refine .done (hK _ ?_); clear hK K; simp only [thenQ, blockQ]
      refine AW.ret ?_
      simp only [blockQ, thenQ, bR, Nat.reduceEqDiff, reduceIte, Int.reduceBNe, Int.reduceBEq]
      simp [costR, hw, ha, hb]
    · cases h
  refine AW.seq (AW.reg cd37_2 fun K hK => ?_)
  simp only [g37_2, bR, Nat.reduceEqDiff, reduceIte, Int.reduceBNe, Int.reduceBEq]
  refine .done (hK _ ?_); clear hK K; simp only [thenQ, blockQ]
  refine AW.ite ?_
  simp only [condQ, bR, Nat.reduceEqDiff, reduceIte, Int.reduceBNe, Int.reduceBEq]
  refine ⟨fun h => ?_, fun h => ?_⟩
  · cases h
  refine AW.skip ?_; simp only [thenQ, blockQ, reduceIte, Nat.reduceEqDiff]
  refine AW.seq (AW.reg cd37_4 fun K hK => ?_)
  simp only [g37_4, bR, Nat.reduceEqDiff, reduceIte, Int.reduceBNe, Int.reduceBEq]
  simp only [typR, useR, okR, e_fin, bR, Nat.reduceEqDiff, reduceIte, Int.reduceBNe, Int.reduceBEq]
  refine .flat _ (F88 w a b ha) rfl ?_
  simp only [bR, Nat.reduceEqDiff, reduceIte, Int.reduceBNe, Int.reduceBEq]
  refine .done (hK _ ?_); clear hK K; simp only [thenQ, blockQ]
  refine AW.ret ?_
  simp only [blockQ, thenQ, bR, Nat.reduceEqDiff, reduceIte, Int.reduceBNe, Int.reduceBEq]
  simp [costR, hw, ha, hb]

theorem F51 (m : Marks) (a b : Arr 6 Int) : Ctr Try.prog 51 [enc m, enc a, enc b] (.tuple [enc (possR m a b).1, enc (possR m a b).2]) := by
  refine Ctr.mk' Try.func51 ca51 cc51 cr51 (Nat.le_of_ble_eq_true rfl) (fun hwf W0 D0 E1 => ?_)
  simp only [c51, r51, idx, Nat.zero_add, Nat.reduceAdd]
  refine AW.seq (AW.reg cd51_0 fun K hK => ?_)
  simp only [g51_0, bR, Nat.reduceEqDiff, reduceIte, Int.reduceBNe, Int.reduceBEq]
  simp only [e_isVal, bR, Nat.reduceEqDiff, reduceIte, Int.reduceBNe, Int.reduceBEq]
  refine .done (hK _ ?_); clear hK K; simp only [thenQ, blockQ]
  refine AW.seq ?_
  refine AW.seq (AW.reg cd51_1 fun K hK => ?_)
  simp only [g51_1, bR, Nat.reduceEqDiff, reduceIte, Int.reduceBNe, Int.reduceBEq]
  simp only [typR, useR, okR, e_fin, bR, Nat.reduceEqDiff, reduceIte, Int.reduceBNe, Int.reduceBEq]
  refine .flat _ (F47 m) rfl ?_
  simp only [typR, useR, okR, e_fin, bR, Nat.reduceEqDiff, reduceIte, Int.reduceBNe, Int.reduceBEq]
  refine .flat _ (F41 a) rfl ?_
  simp only [typR, useR, okR, e_fin, bR, Nat.reduceEqDiff, reduceIte, Int.reduceBNe, Int.reduceBEq]
  refine .flat _ (F45 b) rfl ?_
  simp only [typR, useR, okR, e_fin, bs3, bR, Nat.reduceEqDiff, reduceIte, Int.reduceBNe, Int.reduceBEq]
  refine .flat _ (F64 _) rfl ?_
  rw [first3 _ _ _ 13 10 12 (by decide) (by decide) (by decide)]
  simp only [bR, Nat.reduceEqDiff, reduceIte, Int.reduceBNe, Int.reduceBEq]
  refine .done (hK _ ?_); clear hK K; simp only [thenQ, blockQ]
  generalize hw : okM m = bw
  generalize ha : okMark a = ba
  generalize hb : okReading b = bb
  cases bw
  · refine AW.seq (AW.reg cd51_2 fun K hK => ?_)
    simp only [g51_2, bR, Nat.reduceEqDiff, reduceIte, Int.reduceBNe, Int.reduceBEq]
    refine .done (hK _ ?_); clear hK K; simp only [thenQ, blockQ]
    refine AW.ite ?_
    simp only [condQ, bR, Nat.reduceEqDiff, reduceIte, Int.reduceBNe, Int.reduceBEq]
    refine ⟨fun h => ?_, fun h => ?_⟩
    · refine AW.seq (AW.reg cd51_3 fun K hK => ?_)
      simp only [g51_3, bR, Nat.reduceEqDiff, reduceIte, Int.reduceBNe, Int.reduceBEq]
      refine .done (hK _ ?_); clear hK K; simp only [thenQ, blockQ]
      refine AW.ret ?_
      simp only [blockQ, thenQ, bR, Nat.reduceEqDiff, reduceIte, Int.reduceBNe, Int.reduceBEq]
      simp [possR, hw]
    · cases h
  cases ba
  · refine AW.seq (AW.reg cd51_2 fun K hK => ?_)
    simp only [g51_2, bR, Nat.reduceEqDiff, reduceIte, Int.reduceBNe, Int.reduceBEq]
    refine .done (hK _ ?_); clear hK K; simp only [thenQ, blockQ]
    refine AW.ite ?_
    simp only [condQ, bR, Nat.reduceEqDiff, reduceIte, Int.reduceBNe, Int.reduceBEq]
    refine ⟨fun h => ?_, fun h => ?_⟩
    · refine AW.seq (AW.reg cd51_3 fun K hK => ?_)
      simp only [g51_3, bR, Nat.reduceEqDiff, reduceIte, Int.reduceBNe, Int.reduceBEq]
      refine .done (hK _ ?_); clear hK K; simp only [thenQ, blockQ]
      refine AW.ret ?_
      simp only [blockQ, thenQ, bR, Nat.reduceEqDiff, reduceIte, Int.reduceBNe, Int.reduceBEq]
      simp [possR, hw, ha]
    · cases h
  cases bb
  · refine AW.seq (AW.reg cd51_2 fun K hK => ?_)
    simp only [g51_2, bR, Nat.reduceEqDiff, reduceIte, Int.reduceBNe, Int.reduceBEq]
    refine .done (hK _ ?_); clear hK K; simp only [thenQ, blockQ]
    refine AW.ite ?_
    simp only [condQ, bR, Nat.reduceEqDiff, reduceIte, Int.reduceBNe, Int.reduceBEq]
    refine ⟨fun h => ?_, fun h => ?_⟩
    · refine AW.seq (AW.reg cd51_3 fun K hK => ?_)
      simp only [g51_3, bR, Nat.reduceEqDiff, reduceIte, Int.reduceBNe, Int.reduceBEq]
      refine .done (hK _ ?_); clear hK K; simp only [thenQ, blockQ]
      refine AW.ret ?_
      simp only [blockQ, thenQ, bR, Nat.reduceEqDiff, reduceIte, Int.reduceBNe, Int.reduceBEq]
      simp [possR, hw, ha, hb]
    · cases h
  refine AW.seq (AW.reg cd51_2 fun K hK => ?_)
  simp only [g51_2, bR, Nat.reduceEqDiff, reduceIte, Int.reduceBNe, Int.reduceBEq]
  refine .done (hK _ ?_); clear hK K; simp only [thenQ, blockQ]
  refine AW.ite ?_
  simp only [condQ, bR, Nat.reduceEqDiff, reduceIte, Int.reduceBNe, Int.reduceBEq]
  refine ⟨fun h => ?_, fun h => ?_⟩
  · cases h
  refine AW.skip ?_; simp only [thenQ, blockQ, reduceIte, Nat.reduceEqDiff]
  refine AW.seq (AW.reg cd51_4 fun K hK => ?_)
  simp only [g51_4, bR, Nat.reduceEqDiff, reduceIte, Int.reduceBNe, Int.reduceBEq]
  simp only [typR, useR, okR, e_fin, bR, Nat.reduceEqDiff, reduceIte, Int.reduceBNe, Int.reduceBEq]
  refine .flat _ (F88 m.wear a b ha) rfl ?_
  simp only [typR, useR, okR, bR, Nat.reduceEqDiff, reduceIte, Int.reduceBNe, Int.reduceBEq]
  refine .done (hK _ ?_); clear hK K; simp only [thenQ, blockQ]
  refine AW.ret ?_
  simp only [blockQ, thenQ, bR, Nat.reduceEqDiff, reduceIte, Int.reduceBNe, Int.reduceBEq]
  simp [possR, hw, ha, hb]

theorem F90 (m : Marks) (o : Int) : Ctr Try.prog 90 [enc m, enc o] (enc (askedOf m o)) := by
  refine Ctr.mk' Try.func90 ca90 cc90 cr90 (Nat.le_of_ble_eq_true rfl) (fun hwf W0 D0 E1 => ?_)
  simp only [c90, r90, idx, Nat.zero_add, Nat.reduceAdd]
  refine AW.seq (AW.reg cd90_0 fun K hK => ?_)
  simp only [g90_0, bR, Nat.reduceEqDiff, reduceIte, Int.reduceBNe, Int.reduceBEq]
  simp only [e_isVal, bR, Nat.reduceEqDiff, reduceIte, Int.reduceBNe, Int.reduceBEq]
  refine .done (hK _ ?_); clear hK K; simp only [thenQ, blockQ]
  refine AW.seq ?_
  refine AW.seq (AW.reg cd90_1 fun K hK => ?_)
  simp only [g90_1, bR, Nat.reduceEqDiff, reduceIte, Int.reduceBNe, Int.reduceBEq]
  simp only [typR, useR, okR, e_fin, bR, Nat.reduceEqDiff, reduceIte, Int.reduceBNe, Int.reduceBEq]
  refine .flat _ (F47 m) rfl ?_
  simp only [bR, Nat.reduceEqDiff, reduceIte, Int.reduceBNe, Int.reduceBEq]
  refine .done (hK _ ?_); clear hK K; simp only [thenQ, blockQ]
  generalize hw : okM m = bw
  cases bw
  · refine AW.seq (AW.reg cd90_2 fun K hK => ?_)
    simp only [g90_2, bR, Nat.reduceEqDiff, reduceIte, Int.reduceBNe, Int.reduceBEq]
    refine .done (hK _ ?_); clear hK K; simp only [thenQ, blockQ]
    refine AW.ite ?_
    simp only [condQ, bR, Nat.reduceEqDiff, reduceIte, Int.reduceBNe, Int.reduceBEq]
    refine ⟨fun h => ?_, fun h => ?_⟩
    · refine AW.seq (AW.reg cd90_3 fun K hK => ?_)
      simp only [g90_3, bR, Nat.reduceEqDiff, reduceIte, Int.reduceBNe, Int.reduceBEq]
      refine .done (hK _ ?_); clear hK K; simp only [thenQ, blockQ]
      refine AW.ret ?_
      simp only [blockQ, thenQ, bR, Nat.reduceEqDiff, reduceIte, Int.reduceBNe, Int.reduceBEq]
      simp [askedOf, hw]
    · cases h
  refine AW.seq (AW.reg cd90_2 fun K hK => ?_)
  simp only [g90_2, bR, Nat.reduceEqDiff, reduceIte, Int.reduceBNe, Int.reduceBEq]
  refine .done (hK _ ?_); clear hK K; simp only [thenQ, blockQ]
  refine AW.ite ?_
  simp only [condQ, bR, Nat.reduceEqDiff, reduceIte, Int.reduceBNe, Int.reduceBEq]
  refine ⟨fun h => ?_, fun h => ?_⟩
  · cases h
  refine AW.skip ?_; simp only [thenQ, blockQ, reduceIte, Nat.reduceEqDiff]
  refine AW.seq (AW.seq ?_)
  refine AW.reg cd90_4 fun K hK => ?_
  simp only [g90_4, bR, Nat.reduceEqDiff, reduceIte, Int.reduceBNe, Int.reduceBEq]
  refine .flat _ (F97 o) rfl ?_
  generalize ho : inR 1 99 o = bo
  cases bo
  · simp only [bR, Nat.reduceEqDiff, reduceIte, Int.reduceBNe, Int.reduceBEq]
    refine .done (hK _ ?_); clear hK K; simp only [thenQ, blockQ]
    refine AW.ite ?_
    simp only [condQ, bR, Nat.reduceEqDiff, reduceIte, Int.reduceBNe, Int.reduceBEq]
    refine ⟨fun h => ?_, fun h => ?_⟩
    · refine AW.seq (AW.reg cd90_5 fun K hK => ?_)
      simp only [g90_5, bR, Nat.reduceEqDiff, reduceIte, Int.reduceBNe, Int.reduceBEq]
      refine .done (hK _ ?_); clear hK K; simp only [thenQ, blockQ]
      refine AW.ret ?_
      simp only [blockQ, thenQ, bR, Nat.reduceEqDiff, reduceIte, Int.reduceBNe, Int.reduceBEq]
      simp [askedOf, hw, ho]
    · cases h
  simp only [bR, Nat.reduceEqDiff, reduceIte, Int.reduceBNe, Int.reduceBEq]
  refine .done (hK _ ?_); clear hK K; simp only [thenQ, blockQ]
  refine AW.ite ?_
  simp only [condQ, bR, Nat.reduceEqDiff, reduceIte, Int.reduceBNe, Int.reduceBEq]
  refine ⟨fun h => ?_, fun h => ?_⟩
  · cases h
  refine AW.skip ?_; simp only [thenQ, blockQ, reduceIte, Nat.reduceEqDiff]
  refine AW.seq (AW.reg cd90_6 fun K hK => ?_)
  simp only [g90_6, bR, Nat.reduceEqDiff, reduceIte, Int.reduceBNe, Int.reduceBEq]
  refine .done (hK _ ?_); clear hK K; simp only [thenQ, blockQ]
  refine AW.ret ?_
  simp only [blockQ, thenQ, bR, Nat.reduceEqDiff, reduceIte, Int.reduceBNe, Int.reduceBEq]
  simp [askedOf, hw, ho]

end Go.Proofs.Ytkjkbpgdpnapfaa

/-
  FUNCTIONS OF THE PACKAGE mark BY CONTRACT: BinarySearchFunc, find, MarkOf, owners, arePlaces.
-/
namespace Go.Proofs.Ytkjkbpgdpnapfaa
open Go Go.Abs
open Go.Abs.Enc (enc)

theorem F115 (g : Given) (o : Int) : Ctr Try.prog 115 [enc g, enc o] (enc (IntKind.i64.wrap (g.owner - o))) := by
  refine Ctr.mk' Try.func115 ca115 cc115 cr115 (Nat.le_of_ble_eq_true rfl) (fun hwf W0 D0 E1 => ?_)
  simp only [c115, r115, idx, Nat.zero_add, Nat.reduceAdd]
  refine AW.seq (AW.reg cd115_0 fun K hK => ?_)
  simp only [g115_0, bR, Nat.reduceEqDiff, reduceIte, Int.reduceBNe, Int.reduceBEq]
  simp only [e_isVal, bR, Nat.reduceEqDiff, reduceIte, Int.reduceBNe, Int.reduceBEq]
  refine .done (hK _ ?_); clear hK K; simp only [thenQ, blockQ]
  refine AW.seq (AW.reg cd115_1 fun K hK => ?_)
  simp only [g115_1, bR, Nat.reduceEqDiff, reduceIte, Int.reduceBNe, Int.reduceBEq]
  simp only [typR, useR, okR, bR, Nat.reduceEqDiff, reduceIte, Int.reduceBNe, Int.reduceBEq]
  refine .done (hK _ ?_); clear hK K; simp only [thenQ, blockQ]
  refine AW.ret ?_
  simp only [blockQ, thenQ, bR, Nat.reduceEqDiff, reduceIte, Int.reduceBNe, Int.reduceBEq]

theorem half_ok (i j : Nat) (h : i + j ≤ 2000) : IntKind.i64.wrap ((IntKind.u64.wrap (IntKind.i64.wrap ((i : Int) + (j : Int)))).fdiv (2 ^ (min (1 : Int).toNat IntKind.u64.bits))) = (((i + j) / 2 : Nat) : Int) := by
  have e0 : IntKind.i64.wrap ((i : Int) + (j : Int)) = (i : Int) + (j : Int) := wrap_id _ (by omega) (by omega)
  rw [e0]
  have e1 : IntKind.u64.wrap ((i : Int) + (j : Int)) = ((i + j : Nat) : Int) := by
    simp only [IntKind.wrap, IntKind.bits, IntKind.signed]
    simp
    omega
  have e2 : (2 ^ (min (1 : Int).toNat IntKind.u64.bits) : Int) = 2 := by decide
  rw [e1, e2, Int.fdiv_eq_ediv_of_nonneg _ (by omega)]
  have e3 : ((i + j : Nat) : Int) / 2 = (((i + j) / 2 : Nat) : Int) := by omega
  rw [e3]
  exact wrap_id _ (by omega) (by omega)

theorem F114 (l : List Given) (o : Int) (f : FuncId) (c : Given → Int) (hf : ∀ x ∈ l, Ctr Try.prog f [enc x, enc o] (enc (c x))) (hlen : l.length ≤ 1000) (k : Nat) (hk : k ≤ l.length) (h1 : ∀ (i : Nat) (h : i < l.length), i < k → c l[i] < 0) (h2 : ∀ (i : Nat) (h : i < l.length), k ≤ i → ¬ c l[i] < 0) :
    Ctr Try.prog 114 [enc l, enc o, .func f []] (.tuple [enc (k : Int), enc (if h : k < l.length then c l[k] == 0 else false)]) := by
  refine Ctr.mk' Try.func114 ca114 cc114 cr114 (Nat.le_of_ble_eq_true rfl) (fun hwf W0 D0 E1 => ?_)
  simp only [c114, r114, idx, Nat.zero_add, Nat.reduceAdd]
  refine AW.seq (AW.reg cd114_0 fun K hK => ?_)
  simp only [g114_0, bR, Nat.reduceEqDiff, reduceIte, Int.reduceBNe, Int.reduceBEq]
  refine .done (hK _ ?_); clear hK K; simp only [thenQ, blockQ]
  refine AW.seq (AW.reg cd114_1 fun K hK => ?_)
  simp only [g114_1, bR, Nat.reduceEqDiff, reduceIte, Int.reduceBNe, Int.reduceBEq]
  simp only [useR, bR, Nat.reduceEqDiff, reduceIte, Int.reduceBNe, Int.reduceBEq]
  refine .done (hK _ ?_); clear hK K; simp only [thenQ, blockQ]
  refine AW.seq (AW.reg cd114_2 fun K hK => ?_)
  simp only [g114_2, bR, Nat.reduceEqDiff, reduceIte, Int.reduceBNe, Int.reduceBEq]
  refine .done (hK _ ?_); clear hK K; simp only [thenQ, blockQ]
  refine AW.seq ?_
  refine AW.block (AW.loop (fun s : Nat × Nat => mkA [(0, enc l), (1, .int .i64 o), (2, .func f []), (8, .int .i64 l.length), (9, .int .i64 s.1), (10, .int .i64 s.2)] []) (fun s => s.1 ≤ k ∧ k ≤ s.2 ∧ s.2 ≤ l.length) (fun s => s.2 - s.1) (0, l.length) ⟨Nat.zero_le _, hk, Nat.le_refl _⟩ ?_ ?_)
  · refine Sub.of_lists ?_ ?_ ?_ ?_ <;> simp [subT, subO, onlyT, onlyO, isIn, look_cons, lookO_cons, lookO_nil, AV.only, AV.onlys, AO.only, onlys_map, onlys_append, e_only, e_int, e_bool]
  · rintro ⟨i, j⟩ ⟨hi, hj, hjl⟩
    simp only at hi hj hjl ⊢
    refine AW.seq (AW.seq ?_)
    refine AW.reg cd114_3 fun K hK => ?_
    simp only [g114_3, bR, Nat.reduceEqDiff, reduceIte, Int.reduceBNe, Int.reduceBEq]
    refine .done (hK _ ?_); clear hK K; simp only [thenQ, blockQ]
    refine AW.ite ?_
    simp only [condQ, bR, Nat.reduceEqDiff, reduceIte, Int.reduceBNe, Int.reduceBEq]
    refine ⟨fun h => ?_, fun h => ?_⟩
    · have hlt : i < j := by simpa using h
      refine AW.skip ?_; simp only [thenQ, blockQ, reduceIte, Nat.reduceEqDiff]
      refine AW.block ?_
      have hhl : (i + j) / 2 < l.length := by omega
      refine AW.seq (AW.reg cd114_4 fun K hK => ?_)
      simp only [g114_4, bR, Nat.reduceEqDiff, reduceIte, Int.reduceBNe, Int.reduceBEq]
      simp only [half_ok i j (by omega), Int.reduceLE, bR, Nat.reduceEqDiff, reduceIte, Int.reduceBNe, Int.reduceBEq]
      refine .done (hK _ ?_); clear hK K; simp only [thenQ, blockQ]
      refine AW.seq (AW.reg cd114_5 fun K hK => ?_)
      simp only [g114_5, bR, Nat.reduceEqDiff, reduceIte, Int.reduceBNe, Int.reduceBEq]
      simp only [isE_nat 7 hhl rfl, typR, okR, List.append_nil, e_fin, bR, Nat.reduceEqDiff, reduceIte, Int.reduceBNe, Int.reduceBEq]
      refine .flat _ (hf _ (List.getElem_mem hhl)) rfl ?_
      simp only [bR, Nat.reduceEqDiff, reduceIte, Int.reduceBNe, Int.reduceBEq]
      refine .done (hK _ ?_); clear hK K; simp only [thenQ, blockQ]
      refine AW.ite ?_
      simp only [condQ, bR, Nat.reduceEqDiff, reduceIte, Int.reduceBNe, Int.reduceBEq]
      refine ⟨fun h => ?_, fun h => ?_⟩
      · have hc : c l[(i + j) / 2] < 0 := by simpa using h
        have hlk : (i + j) / 2 < k := Nat.lt_of_not_le fun hle => h2 _ hhl hle hc
        refine AW.reg cd114_6 fun K hK => ?_
        simp only [g114_6, bR, Nat.reduceEqDiff, reduceIte, Int.reduceBNe, Int.reduceBEq]
        refine .done (hK _ ?_); clear hK K; simp only [thenQ, blockQ]
        refine ⟨((i + j) / 2 + 1, j), ⟨by simp only; omega, by simp only; omega, by simp only; omega⟩, by simp only; omega, ?_⟩
        rw [wrap_id _ (by omega) (by omega)]
        refine Sub.of_lists ?_ ?_ ?_ ?_ <;> simp [subT, subO, onlyT, onlyO, isIn, look_cons, lookO_cons, lookO_nil, AV.only, AV.onlys, AO.only, onlys_map, onlys_append, e_only, e_int, e_bool]
      · have hc : ¬ c l[(i + j) / 2] < 0 := by simpa using h
        have hkl : k ≤ (i + j) / 2 := Nat.le_of_not_lt fun hle => hc (h1 _ hhl hle)
        refine AW.reg cd114_7 fun K hK => ?_
        simp only [g114_7, bR, Nat.reduceEqDiff, reduceIte, Int.reduceBNe, Int.reduceBEq]
        refine .done (hK _ ?_); clear hK K; simp only [thenQ, blockQ]
        refine ⟨(i, (i + j) / 2), ⟨by simp only; omega, by simp only; omega, by simp only; omega⟩, by simp only; omega, ?_⟩
        refine Sub.of_lists ?_ ?_ ?_ ?_ <;> simp [subT, subO, onlyT, onlyO, isIn, look_cons, lookO_cons, lookO_nil, AV.only, AV.onlys, AO.only, onlys_map, onlys_append, e_only, e_int, e_bool]
    · have hge : ¬ i < j := by simpa using h
      have hik : i = k := by omega
      subst hik
      refine AW.exit ?_; simp only [thenQ, blockQ, reduceIte, Nat.reduceEqDiff]
      refine AW.seq (AW.reg cd114_8 fun K hK => ?_)
      simp only [g114_8, bR, Nat.reduceEqDiff, reduceIte, Int.reduceBNe, Int.reduceBEq]
      generalize hz : decide ((i : Int) < (l.length : Int)) = z
      cases z
      · have hz' : ¬ i < l.length := by simpa using hz
        simp only [bR, Nat.reduceEqDiff, reduceIte, Int.reduceBNe, Int.reduceBEq]
        refine .done (hK _ ?_); clear hK K; simp only [thenQ, blockQ]
        refine AW.ret ?_
        simp only [blockQ, thenQ, bR, Nat.reduceEqDiff, reduceIte, Int.reduceBNe, Int.reduceBEq]
        simp [hz']
      · have hz' : i < l.length := by simpa using hz
        simp only [isE_nat 7 hz' rfl, typR, okR, List.append_nil, e_fin, bR, Nat.reduceEqDiff, reduceIte, Int.reduceBNe, Int.reduceBEq]
        refine .flat _ (hf _ (List.getElem_mem hz')) rfl ?_
        simp only [bR, Nat.reduceEqDiff, reduceIte, Int.reduceBNe, Int.reduceBEq]
        refine .done (hK _ ?_); clear hK K; simp only [thenQ, blockQ]
        refine AW.ret ?_
        simp only [blockQ, thenQ, bR, Nat.reduceEqDiff, reduceIte, Int.reduceBNe, Int.reduceBEq]
        simp [hz']

/-- How many owners come ahead of one. -/
def posOf (l : List Given) (o : Int) : Nat := l.findIdx fun g => decide (o ≤ g.owner)
def foundAt (l : List Given) (o : Int) : Bool := if h : posOf l o < l.length then l[posOf l o].owner == o else false

def rising (l : List Given) : Prop := ∀ (i j : Nat) (hi : i < l.length) (hj : j < l.length), i < j → l[i].owner < l[j].owner

theorem posOf_lt {l : List Given} {o : Int} {i : Nat} (h : i < l.length) (hi : i < posOf l o) : l[i].owner < o := by
  have := List.not_of_lt_findIdx hi
  simpa using this
theorem posOf_ge {l : List Given} {o : Int} (hr : rising l) {i : Nat} (h : i < l.length) (hi : posOf l o ≤ i) : o ≤ l[i].owner := by
  have hp : posOf l o < l.length := by omega
  have h1 : o ≤ l[posOf l o].owner := by
    have : decide (o ≤ (l[posOf l o]'hp).owner) = true := @List.findIdx_getElem _ (fun g : Given => decide (o ≤ g.owner)) l hp
    simpa using this
  by_cases he : posOf l o = i
  · simp only [← he]; exact h1
  · have := hr _ i hp h (by omega)
    omega

theorem okM_rising {m : Marks} (h : okM m = true) : rising m.given := by
  simp only [okM, Bool.and_eq_true, List.all_eq_true, List.mem_range] at h
  have h1 : ∀ i, i + 1 < m.given.length → (gv m i).owner < (gv m (i + 1)).owner := fun i hi => by
    have := h.2.2.2 (i + 1) hi
    simp only [okAt, Bool.and_eq_true] at this
    simpa using this.2.2.1
  intro i j hi hj hij
  obtain ⟨d, rfl⟩ : ∃ d, j = i + 1 + d := ⟨j - (i + 1), by omega⟩
  induction d with
  | zero => rw [gv_eq hi, gv_eq hj]; exact h1 i hj
  | succ d ih =>
    have hj' : i + 1 + d < m.given.length := by omega
    have := ih hj' (by omega)
    rw [gv_eq hi, gv_eq hj'] at this
    rw [gv_eq hi, gv_eq hj]
    have h3 := h1 (i + 1 + d) hj
    have e : i + 1 + (d + 1) = i + 1 + d + 1 := by omega
    rw [e]; omega
theorem okM_owner {m : Marks} (h : okM m = true) {i : Nat} (hi : i < m.given.length) : 1 ≤ (gv m i).owner ∧ (gv m i).owner ≤ 99 := by
  simp only [okM, Bool.and_eq_true, List.all_eq_true, List.mem_range] at h
  have := h.2.2.2 i hi
  simp only [okAt, Bool.and_eq_true, inR, decide_eq_true_eq] at this
  exact this.1
theorem okM_len {m : Marks} (h : okM m = true) : m.given.length ≤ 40 := by
  simp only [okM, Bool.and_eq_true, decide_eq_true_eq] at h
  exact h.2.2.1
theorem okM_mark {m : Marks} (h : okM m = true) : ∀ g ∈ m.given, okMark g.mark = true := fun g hg => by
  simp only [okM, Bool.and_eq_true, List.all_eq_true, List.mem_range] at h
  obtain ⟨i, hi, rfl⟩ := List.getElem_of_mem hg
  rw [gv_eq hi]
  exact okAt_mark (h.2.2.2 i hi)

theorem F91 (m : Marks) (o : Int) (hm : okM m = true) (ho : 1 ≤ o ∧ o ≤ 99) : Ctr Try.prog 91 [enc m, enc o] (.tuple [enc (posOf m.given o : Int), enc (foundAt m.given o)]) := by
  have hlen := okM_len hm
  have hr := okM_rising hm
  have hw : ∀ (i : Nat) (h : i < m.given.length), IntKind.i64.wrap (m.given[i].owner - o) = m.given[i].owner - o := fun i h => by
    rw [gv_eq h]
    have := okM_owner hm h
    exact wrap_id _ (by omega) (by omega)
  refine Ctr.mk' Try.func91 ca91 cc91 cr91 (Nat.le_of_ble_eq_true rfl) (fun hwf W0 D0 E1 => ?_)
  simp only [c91, r91, idx, Nat.zero_add, Nat.reduceAdd]
  refine AW.seq (AW.reg cd91_0 fun K hK => ?_)
  simp only [g91_0, bR, Nat.reduceEqDiff, reduceIte, Int.reduceBNe, Int.reduceBEq]
  simp only [e_isVal, bR, Nat.reduceEqDiff, reduceIte, Int.reduceBNe, Int.reduceBEq]
  refine .done (hK _ ?_); clear hK K; simp only [thenQ, blockQ]
  refine AW.seq (AW.reg cd91_1 fun K hK => ?_)
  simp only [g91_1, bR, Nat.reduceEqDiff, reduceIte, Int.reduceBNe, Int.reduceBEq]
  simp only [typR, useR, okR, e_fin, bR, Nat.reduceEqDiff, reduceIte, Int.reduceBNe, Int.reduceBEq]
  refine .flat _ (F114 m.given o 115 (fun g => IntKind.i64.wrap (g.owner - o)) (fun x _ => F115 x o) (by omega) (posOf m.given o) List.findIdx_le_length (fun i h hi => ?_) (fun i h hi => ?_)) rfl ?_
  · simp only [hw i h]; have := posOf_lt h hi; omega
  · simp only [hw i h]; have := posOf_ge hr h hi; omega
  simp only [List.getElem?_cons_zero, List.getElem?_cons_succ, bR, Nat.reduceEqDiff, reduceIte, Int.reduceBNe, Int.reduceBEq]
  refine .done (hK _ ?_); clear hK K; simp only [thenQ, blockQ]
  refine AW.ret ?_
  simp only [blockQ, thenQ, bR, Nat.reduceEqDiff, reduceIte, Int.reduceBNe, Int.reduceBEq]
  have e : (if h : posOf m.given o < m.given.length then IntKind.i64.wrap (m.given[posOf m.given o].owner - o) == 0 else false) = foundAt m.given o := by
    simp only [foundAt]
    split
    · rename_i h
      rw [hw _ h, Bool.eq_iff_iff]
      simp
      omega
    · rfl
  simp [e]

theorem foundAt_index {m : Marks} {o : Int} (hm : okM m = true) : (foundAt m.given o = true → indexOf m.given o = posOf m.given o ∧ posOf m.given o < m.given.length) ∧ (foundAt m.given o = false → indexOf m.given o = -1) := by
  have hr := okM_rising hm
  constructor
  · intro h
    simp only [foundAt] at h
    split at h
    · rename_i hlt
      refine ⟨?_, hlt⟩
      have : m.given.findIdx? (fun g => g.owner == o) = some (posOf m.given o) := by
        rw [List.findIdx?_eq_some_iff_getElem]
        refine ⟨hlt, h, fun j hj => ?_⟩
        have := posOf_lt (l := m.given) (o := o) (i := j) (by omega) hj
        simp; omega
      simp [indexOf, this]
    · cases h
  · intro h
    have : m.given.findIdx? (fun g => g.owner == o) = none := by
      rw [List.findIdx?_eq_none_iff]
      intro g hg
      obtain ⟨j, hj, rfl⟩ := List.getElem_of_mem hg
      simp only [foundAt] at h
      by_cases hjp : j < posOf m.given o
      · have := posOf_lt hj hjp
        simp; omega
      · have hp : posOf m.given o < m.given.length := by omega
        rw [dif_pos hp] at h
        have h1 := posOf_ge (o := o) hr hp (Nat.le_refl _)
        by_cases he : posOf m.given o = j
        · simp only [← he]; exact h
        · have := hr _ j hp hj (by omega)
          simp; omega
    simp [indexOf, this]

theorem F39 (m : Marks) (o : Int) : Ctr Try.prog 39 [enc m, enc o] (.tuple [enc (markOf m o).1, enc (markOf m o).2]) := by
  refine Ctr.mk' Try.func39 ca39 cc39 cr39 (Nat.le_of_ble_eq_true rfl) (fun hwf W0 D0 E1 => ?_)
  simp only [c39, r39, idx, Nat.zero_add, Nat.reduceAdd]
  refine AW.seq (AW.reg cd39_0 fun K hK => ?_)
  simp only [g39_0, bR, Nat.reduceEqDiff, reduceIte, Int.reduceBNe, Int.reduceBEq]
  simp only [e_isVal, bR, Nat.reduceEqDiff, reduceIte, Int.reduceBNe, Int.reduceBEq]
  refine .done (hK _ ?_); clear hK K; simp only [thenQ, blockQ]
  refine AW.seq ?_
  refine AW.seq (AW.reg cd39_1 fun K hK => ?_)
  simp only [g39_1, bR, Nat.reduceEqDiff, reduceIte, Int.reduceBNe, Int.reduceBEq]
  simp only [typR, useR, okR, e_fin, bR, Nat.reduceEqDiff, reduceIte, Int.reduceBNe, Int.reduceBEq]
  refine .flat _ (F90 m o) rfl ?_
  generalize ha : askedOf m o = a
  simp only [bR, Nat.reduceEqDiff, reduceIte, Int.reduceBNe, Int.reduceBEq]
  refine .done (hK _ ?_); clear hK K; simp only [thenQ, blockQ]
  refine AW.seq (AW.reg cd39_2 fun K hK => ?_)
  simp only [g39_2, bR, Nat.reduceEqDiff, reduceIte, Int.reduceBNe, Int.reduceBEq]
  refine .done (hK _ ?_); clear hK K; simp only [thenQ, blockQ]
  refine AW.ite ?_
  simp only [condQ, bR, Nat.reduceEqDiff, reduceIte, Int.reduceBNe, Int.reduceBEq]
  refine ⟨fun h => ?_, fun h => ?_⟩
  · have h' : a ≠ 0 := by simpa using h
    refine AW.seq (AW.reg cd39_3 fun K hK => ?_)
    simp only [g39_3, bR, Nat.reduceEqDiff, reduceIte, Int.reduceBNe, Int.reduceBEq]
    simp only [setParts, List.map_nil, Option.map_some, bR, Nat.reduceEqDiff, reduceIte, Int.reduceBNe, Int.reduceBEq]
    simp only [e_zero6]
    rw [stR3_ok (e_isVal _) (by rw [e_okS]; rfl) rfl]
    simp only [bR, Nat.reduceEqDiff, reduceIte, Int.reduceBNe, Int.reduceBEq]
    refine .done (hK _ ?_); clear hK K; simp only [thenQ, blockQ]
    refine AW.ret ?_
    simp only [blockQ, thenQ, bR, Nat.reduceEqDiff, reduceIte, Int.reduceBNe, Int.reduceBEq]
    simp only [typR, e_fin, bR, Nat.reduceEqDiff, reduceIte, Int.reduceBNe, Int.reduceBEq]
    simp [markOf, ha, h']
  have h' : a = 0 := by simpa using h
  subst h'
  have hm : okM m = true := by
    simp only [askedOf] at ha
    split at ha
    · assumption
    · cases ha
  have ho : 1 ≤ o ∧ o ≤ 99 := by
    simp only [askedOf, hm, if_true] at ha
    split at ha
    · rename_i h1; simpa [inR] using h1
    · cases ha
  obtain ⟨f1, f2⟩ := foundAt_index (o := o) hm
  refine AW.skip ?_; simp only [thenQ, blockQ, reduceIte, Nat.reduceEqDiff]
  refine AW.seq (AW.reg cd39_4 fun K hK => ?_)
  simp only [g39_4, bR, Nat.reduceEqDiff, reduceIte, Int.reduceBNe, Int.reduceBEq]
  simp only [typR, useR, okR, e_fin, bR, Nat.reduceEqDiff, reduceIte, Int.reduceBNe, Int.reduceBEq]
  refine .flat _ (F91 m o hm ho) rfl ?_
  simp only [List.getElem?_cons_zero, List.getElem?_cons_succ, bR, Nat.reduceEqDiff, reduceIte, Int.reduceBNe, Int.reduceBEq]
  refine .done (hK _ ?_); clear hK K; simp only [thenQ, blockQ]
  refine AW.seq (AW.seq ?_)
  refine AW.reg cd39_5 fun K hK => ?_
  simp only [g39_5, bR, Nat.reduceEqDiff, reduceIte, Int.reduceBNe, Int.reduceBEq]
  refine .done (hK _ ?_); clear hK K; simp only [thenQ, blockQ]
  refine AW.ite ?_
  simp only [condQ, bR, Nat.reduceEqDiff, reduceIte, Int.reduceBNe, Int.reduceBEq]
  refine ⟨fun h => ?_, fun h => ?_⟩
  · have hf : foundAt m.given o = false := by simpa using h
    refine AW.seq (AW.reg cd39_6 fun K hK => ?_)
    simp only [g39_6, bR, Nat.reduceEqDiff, reduceIte, Int.reduceBNe, Int.reduceBEq]
    simp only [setParts, List.map_nil, Option.map_some, bR, Nat.reduceEqDiff, reduceIte, Int.reduceBNe, Int.reduceBEq]
    simp only [e_zero6]
    rw [stR3_ok (e_isVal _) (by rw [e_okS]; rfl) rfl]
    simp only [bR, Nat.reduceEqDiff, reduceIte, Int.reduceBNe, Int.reduceBEq]
    refine .done (hK _ ?_); clear hK K; simp only [thenQ, blockQ]
    refine AW.ret ?_
    simp only [blockQ, thenQ, bR, Nat.reduceEqDiff, reduceIte, Int.reduceBNe, Int.reduceBEq]
    simp only [typR, e_fin, bR, Nat.reduceEqDiff, reduceIte, Int.reduceBNe, Int.reduceBEq]
    simp [markOf, ha, f2 hf]
  · have hf : foundAt m.given o = true := by simpa using h
    obtain ⟨g1, g2⟩ := f1 hf
    refine AW.skip ?_; simp only [thenQ, blockQ, reduceIte, Nat.reduceEqDiff]
    refine AW.seq (AW.reg cd39_7 fun K hK => ?_)
    simp only [g39_7, bR, Nat.reduceEqDiff, reduceIte, Int.reduceBNe, Int.reduceBEq]
    simp only [typR, useR, okR, isE_gv g2, bR, Nat.reduceEqDiff, reduceIte, Int.reduceBNe, Int.reduceBEq]
    rw [stR3_ok (e_isVal _) (by rw [e_okS]; rfl) ((e_sh _).trans rfl)]
    simp only [bR, Nat.reduceEqDiff, reduceIte, Int.reduceBNe, Int.reduceBEq]
    refine .done (hK _ ?_); clear hK K; simp only [thenQ, blockQ]
    refine AW.ret ?_
    simp only [blockQ, thenQ, bR, Nat.reduceEqDiff, reduceIte, Int.reduceBNe, Int.reduceBEq]
    simp only [typR, e_fin, bR, Nat.reduceEqDiff, reduceIte, Int.reduceBNe, Int.reduceBEq]
    have : ¬ ((posOf m.given o : Int) < 0) := by omega
    simp [markOf, ha, g1, this]

end Go.Proofs.Ytkjkbpgdpnapfaa

/-
  THE ABSTRACT LAYER, 20: objects handed over: rules in the form in which they are used. Over any program.
-/
namespace Go.Abs
open Go Go.RowKit
open Enc (enc)

theorem CtrY.mk' {P : Program} {f : FuncId} {fn : Func} {x : AC} {rs : List RV} {Y : Value → List AV → List (Nat × AO) → Post → Prop} {args : List AV} {os : List (Nat × AO)} {post : Post} (hf : P.funcs[f]? = some fn) (hcall : callable P f = true) (hc : (fn.body.bind (cCode P fn.ntmps)) = some x)
    (hrs : cRes P fn.results.toList = some rs) (hn : args.length ≤ fn.ntmps) (hn2 : fn.ntmps ≤ 1000000) (hos : ∀ m, isIn os m = true → 1000000 ≤ m) (h : AV.wfs args → ∀ (w : World) (D : Dom) (E : Env), AW ⟨P, w, D, fn.ntmps, ownE E, E, Y, none⟩ x (retO rs post) (mkA (idx 0 args) os)) : CtrY P f Y args os post := by
  obtain ⟨body, hb, hc'⟩ := Option.bind_eq_some_iff.1 hc
  refine ⟨hcall, fun w D E vs hy hD ho hv => ?_⟩
  exact (CtrY.of_AW hf hb hcall hc' hrs hn (fun m hm => ⟨Nat.le_trans hn2 (hos m hm), hos m hm⟩) (fun w D E => (h (rvs_wf _ _ hv) w D E).sub (start_mkO args os))).2 w D E vs hy hD ho hv

theorem CtrO.mk' {P : Program} {f : FuncId} {fn : Func} {x : AC} {rs : List RV} {args : List AV} {os : List (Nat × AO)} {post : Post} (hf : P.funcs[f]? = some fn) (hcall : callable P f = true) (hc : (fn.body.bind (cCode P fn.ntmps)) = some x)
    (hrs : cRes P fn.results.toList = some rs) (hn : args.length ≤ fn.ntmps) (hn2 : fn.ntmps ≤ 1000000) (hos : ∀ m, isIn os m = true → 1000000 ≤ m) (h : AV.wfs args → ∀ (w : World) (D : Dom) (E : Env), AW ⟨P, w, D, fn.ntmps, ownE E, E, noY, none⟩ x (retO rs post) (mkA (idx 0 args) os)) : CtrO P f args os post :=
  CtrO.of_Y (CtrY.mk' hf hcall hc hrs hn hn2 hos h)

/-- One object is handed back, or none. -/
theorem held0 {A : AState} : ∀ n x, lookO [] n = some x → A.o n = some x ∧ x.only (isIn []) = true ∧ x.fix = true := fun n x h => by simp [lookO] at h
theorem held1 {A : AState} {k : Nat} {c : AV} (h1 : A.o k = some (.box c)) (h2 : ∀ p, c.only p = true) : ∀ n x, lookO [(k, .box c)] n = some x → A.o n = some x ∧ x.only (isIn [(k, .box c)]) = true ∧ x.fix = true := fun n x h => by
  simp only [lookO] at h
  split at h
  · rename_i hn
    subst hn
    simp only [Option.some.injEq] at h
    subst h
    exact ⟨h1, h2 _, rfl⟩
  · cases h

theorem Bck.nil {bx : Bool} {ρ : List (Nat × Nat)} {os0 : List (Nat × AO)} {r : AV} (h1 : ∀ p, r.only p = true) (h2 : bx = true → r.lean = true) : Bck bx ρ [] os0 r [] :=
  ⟨fun m x h => by simp [lookO] at h, fun m m' h => by simp [isIn, lookO] at h, fun m h => by simp [isIn, lookO] at h, fun m h => by simp [isIn, lookO] at h, h1 _, h2⟩
theorem isIn_one {k : Nat} {x : AO} {m : Nat} : isIn [(k, x)] m = true ↔ m = k := by
  simp only [isIn, lookO]; split <;> simp_all
/-- A new object comes back. -/
theorem Bck.new1 {bx : Bool} {k d : Nat} {os0 : List (Nat × AO)} {r c : AV} (h1 : ∀ p, c.only p = true) (h2 : bx = true → c.lean = true) (h3 : r.only (isIn [(k, .box c)]) = true) (h4 : bx = true → r.lean = true) (h5 : lookO os0 d = none) (h6 : d < 1000000) : Bck bx [(k, d)] [] os0 r [(k, .box c)] := by
  refine ⟨fun m x h => ?_, fun m m' h h' _ => ?_, fun m h => by simp [isIn, lookO] at h, fun m h _ => ?_, h3, h4⟩
  · simp only [lookO] at h
    split at h
    · simp only [Option.some.injEq] at h; subst h; exact ⟨h1 _, rfl, h2⟩
    · cases h
  · rw [isIn_one.1 h, isIn_one.1 h']
  · rw [isIn_one.1 h]; simp [rnm, h5, h6]
/-- The object that was handed over comes back. -/
theorem Bck.one {bx : Bool} {k d : Nat} {x : AO} {os0 : List (Nat × AO)} {r c : AV} (h1 : ∀ p, c.only p = true) (h2 : bx = true → c.lean = true) (h3 : r.only (isIn [(k, .box c)]) = true) (h4 : bx = true → r.lean = true) : Bck bx [(k, d)] [(k, x)] os0 r [(k, .box c)] := by
  refine ⟨fun m x h => ?_, fun m m' h h' _ => ?_, fun m h => ?_, fun m h h' => ?_, h3, h4⟩
  · simp only [lookO] at h
    split at h
    · simp only [Option.some.injEq] at h; subst h; exact ⟨h1 _, rfl, h2⟩
    · cases h
  · rw [isIn_one.1 h, isIn_one.1 h']
  · rw [isIn_one.1 h]; exact isIn_one.2 rfl
  · rw [isIn_one.1 h] at h'
    have : isIn [(k, x)] k = true := isIn_one.2 rfl
    rw [this] at h'; cases h'
theorem Gvn.nil {ρ : List (Nat × Nat)} {os0 : List (Nat × AO)} : Gvn ρ [] os0 := ⟨fun m x h => by simp [lookO] at h, fun m m' h => by simp [isIn, lookO] at h⟩
mutual
theorem ren_closed (ρ : Nat → Nat) : ∀ x : AV, x.closed = true → x.ren ρ = x
  | .agg fs, h => by simp only [AV.ren, AV.closed] at *; rw [rens_closed ρ fs h]
  | .slice _ es, h => by simp only [AV.ren, AV.closed] at *; rw [rens_closed ρ es h]
  | .ref x, h => by simp only [AV.ren, AV.closed] at *; rw [ren_closed ρ x h]
  | .func _ caps, h => by simp only [AV.ren, AV.closed] at *; rw [rens_closed ρ caps h]
  | .iface _ v, h => by simp only [AV.ren, AV.closed] at *; rw [ren_closed ρ v h]
  | .bool _, _ | .int _ _, _ | .str _, _ | .nilp, _ | .nilf, _ | .nili, _ | .raw _, _ | .nils _, _ | .c0 _, _ => by simp only [AV.ren]
  | .ptr _ _, h | .own _ _, h | .view _ _ _ _ _, h | .undef, h | .top, h | .tuple _, h => by simp [AV.closed] at h
theorem rens_closed (ρ : Nat → Nat) : ∀ xs : List AV, AV.closeds xs = true → AV.rens ρ xs = xs
  | [], _ => rfl
  | x :: xs, h => by
    simp only [AV.closeds, Bool.and_eq_true] at h
    simp only [AV.rens, ren_closed ρ x h.1, rens_closed ρ xs h.2]
end

theorem renR :
    (∀ (k : IntKind) n (ρ : Nat → Nat), (AV.int k n).ren ρ = .int k n) ∧ (∀ (b : Bool) (ρ : Nat → Nat), (AV.bool b).ren ρ = .bool b) ∧ (∀ n p (ρ : Nat → Nat), (AV.ptr n p).ren ρ = .ptr (ρ n) p) ∧
    (∀ n p sz lo k (ρ : Nat → Nat), (AV.view n p sz lo k).ren ρ = .view (ρ n) p sz lo k) ∧ (∀ fs (ρ : Nat → Nat), (AV.agg fs).ren ρ = .agg (AV.rens ρ fs)) ∧ (∀ fs (ρ : Nat → Nat), (AV.tuple fs).ren ρ = .tuple (AV.rens ρ fs)) ∧ (∀ f fs (ρ : Nat → Nat), (AV.func f fs).ren ρ = .func f (AV.rens ρ fs)) ∧
    (∀ ρ : Nat → Nat, AV.rens ρ [] = []) ∧ (∀ (ρ : Nat → Nat) x xs, AV.rens ρ (x :: xs) = x.ren ρ :: AV.rens ρ xs) ∧ (∀ (ρ : Nat → Nat) (x : AV), (AO.box x).ren ρ = .box (x.ren ρ)) ∧
    (∀ (z : Nat) (ρ : Nat → Nat), (AV.nils z).ren ρ = .nils z) ∧ (∀ (z : Nat) (ρ : Nat → Nat), (AV.c0 z).ren ρ = .c0 z) ∧
    (∀ n, rnm [] n = n) ∧ (∀ a b r n, rnm ((a, b) :: r) n = if n = a then b else rnm r n) ∧ (∀ ρ, renO ρ [] = []) ∧ (∀ ρ k x os, renO ρ ((k, x) :: os) = (rnm ρ k, x.ren (rnm ρ)) :: renO ρ os) :=
  ⟨fun _ _ _ => by simp only [AV.ren], fun _ _ => by simp only [AV.ren], fun _ _ _ => by simp only [AV.ren], fun _ _ _ _ _ _ => by simp only [AV.ren], fun _ _ => by simp only [AV.ren], fun _ _ => by simp only [AV.ren], fun _ _ _ => by simp only [AV.ren],
    fun _ => rfl, fun _ _ _ => by simp only [AV.rens], fun _ _ => rfl, fun _ _ => by simp only [AV.ren], fun _ _ => by simp only [AV.ren], fun _ => rfl, fun _ _ _ _ => rfl, fun _ => rfl, fun _ _ _ _ => rfl⟩

section
variable {α : Type} [Enc α]
theorem e_ren (ρ : Nat → Nat) (x : α) : (enc x).ren ρ = enc x := ren_closed ρ _ (e_closed x)
theorem rens_map_enc (ρ : Nat → Nat) (l : List α) : AV.rens ρ (l.map enc) = l.map enc := rens_closed ρ _ (closeds_map l)

/-- Data that reads no memory. -/
class Lean0 (α : Type) [Enc α] : Prop where
  lean : ∀ x : α, (enc x).lean = true
theorem e_lean [Lean0 α] (x : α) : (enc x).lean = true := Lean0.lean x
theorem leans_map [Lean0 α] (l : List α) : AV.leans (l.map enc) = true := by
  induction l with
  | nil => rfl
  | cons x l ih => simp only [List.map_cons, AV.leans, e_lean, ih, Bool.and_self]
instance : Lean0 Int := ⟨fun _ => rfl⟩
instance : Lean0 Bool := ⟨fun _ => rfl⟩
instance {n : Nat} [Lean0 α] : Lean0 (Arr n α) := ⟨fun x => by simp only [enc, AV.lean]; exact leans_map x.l⟩

theorem srcL_enc (A : AState) (esz : Nat) (l : List α) (hs : Enc.sz α = esz) : srcL A esz (enc l) = some (l.map enc) := by
  simp only [e_list, srcL, hs, if_true]
theorem und_enc (l : List α) : und (enc l) = l.isEmpty := by
  simp only [e_list, und]; cases l <;> rfl
theorem nilE_enc (neg : Bool) (l : List α) (h : l ≠ []) : nilE neg (enc l) = some (.bool neg) := by
  simp only [e_list, nilE]
  cases l with
  | nil => exact absurd rfl h
  | cons => rfl

section
variable {P : Program} {Y : Value → List AV → List (Nat × AO) → Post → Prop} {K : AState → Prop} {A : AState} {rest : List G} {d : Nat} {e esz bytes : Nat} {q : Nat}

theorem WP.appNew (z : α) {l : List α} (hs : Enc.sz α = esz) (hl : l ≠ []) (hf : A.o d = none) (hb : l.length * bytes ≤ 140737488355328) (hml : l.length ≤ maxLen)
    (h : ∀ m, WP P Y false K (aops rest ((A.setO d (.box (.agg ((l ++ List.replicate m z).map enc)))).putO (some d) (.view d [] esz 0 l.length)))) : WP P Y false K (appR A (some d) e esz bytes (enc z) (enc l) rest (.c0 q)) := by
  have hne : l.map (enc (α := α)) ≠ [] := by simpa using hl
  have h1 : srcL A esz (.c0 q) = some [] := rfl
  simp only [appR, h1, srcL_enc A esz l hs, appO, if_neg hne, appG, hf, List.length_nil, Nat.zero_add, List.length_map, if_pos (And.intro hb hml), List.nil_append]
  refine .any rfl fun m _ => ?_
  have := h m
  simp only [List.map_append, List.map_replicate] at this
  exact this
theorem appR_nothing (z : AV) (hs : Enc.sz α = esz) : appR A (some d) e esz bytes z (enc ([] : List α)) rest (.c0 q) = aops rest (A.putO (some d) (.c0 q)) := by
  have h1 : srcL A esz (.c0 q) = some [] := rfl
  simp only [appR, h1, srcL_enc A esz ([] : List α) hs, appO, List.map_nil, if_true]

/-- The places of a slice's variable, cleared from one on. -/
theorem o_clr (esz : Nat) (z : AV) (x : AOpd) (rest : List G) (A : AState) : opR A none (.clr esz z x) rest = clrO A esz z (aops rest) (ev A x) := rfl
theorem shs_rep (z : α) (k : Nat) : AV.shs (List.replicate k (enc z)) = List.replicate k (Enc.sh α) := by
  have : List.replicate k (enc z) = (List.replicate k z).map (enc (α := α)) := by simp
  rw [this, shs_map]; simp
theorem clrO_enc (z : α) {n lo k : Nat} {xs : List α} (ho : A.o n = some (.box (.agg (xs.map enc)))) (hk : lo + k ≤ xs.length) :
    clrO A esz (enc z) (aops rest) (.view n [] esz lo k) = aops rest (A.setO n (.box (.agg ((xs.take lo ++ (List.replicate k z ++ xs.drop (lo + k))).map enc)))) := by
  have h1 : AV.shs (List.replicate k (enc z)) = AV.shs (((xs.map (enc (α := α))).drop lo).take k) := by
    rw [shs_rep, ← List.map_drop, ← List.map_take, shs_map, List.length_take, List.length_drop]
    congr 1; omega
  have h2 : (AV.agg (xs.map (enc (α := α)))).at [] = some (.agg (xs.map enc)) := rfl
  simp only [clrO, ho, h2]
  rw [if_pos ⟨rfl, h1⟩]
  simp only [setSeg, setAt_nil, List.map_append, List.map_take, List.map_drop, List.map_replicate, List.length_replicate]

theorem sliceV_hi {n : Nat} {p : List Nat} {sz k total i : Nat} (h : i ≤ total) (h0 : 0 < total) : sliceV n p sz 0 k total none (some (.int .i64 i)) none = some (.view n p sz 0 i) := by
  simp only [sliceV, bound]
  rw [if_pos ⟨by omega, by omega, by omega⟩, if_neg (by omega)]
  simp
theorem sliceV_lo {n : Nat} {p : List Nat} {sz k total i : Nat} (h : i ≤ k) (hk : k ≤ total) (h0 : i < total) : sliceV n p sz 0 k total (some (.int .i64 i)) none none = some (.view n p sz i (k - i)) := by
  simp only [sliceV, bound]
  rw [if_pos ⟨by omega, by omega, by omega⟩, if_neg (by omega)]
  simp
theorem isV_ok {m : Nat} {p : List Nat} {sz lo l j : Nat} {fs : List AV} (h : j < l) : isV m p sz lo l sz (j : Int) (some fs) = some (.ptr m (p ++ [lo + j])) := by
  simp only [isV, true_and]
  rw [if_pos ⟨by omega, by omega⟩]
  simp
theorem finV_take {sz k : Nat} {xs : List α} (hs : Enc.sz α = sz) : finV sz 0 k (some (xs.map enc)) = some (enc (xs.take k)) := by
  have h : ((xs.map (enc (α := α))).drop 0).take k = (xs.take k).map enc := by rw [List.drop_zero, List.map_take]
  simp only [finV, h]
  rw [if_pos (closeds_map _), e_list, hs]
end
end

theorem isE_view (A : AState) (esz m : Nat) (p : List Nat) (sz lo l : Nat) (k : Int) : isE A esz k (.view m p sz lo l) = isV m p sz lo l esz k (fldsO (derefP p (A.o m))) := rfl
theorem lenE_view (A : AState) (m : Nat) (p : List Nat) (sz lo l : Nat) : lenE A (.view m p sz lo l) = some (.int .i64 l) := rfl
theorem slE_view (A : AState) (esz : Nat) (lo hi mx : Option AV) (n : Nat) (p : List Nat) (l0 k : Nat) : slE A esz lo hi mx (.view n p esz l0 k) = slV n p esz l0 k esz lo hi mx (fldsO (derefP p (A.o n))) := rfl
theorem slV_some (n : Nat) (p : List Nat) (sz l0 k : Nat) (lo hi mx : Option AV) (fs : List AV) : slV n p sz l0 k sz lo hi mx (some fs) = sliceV n p sz l0 k fs.length lo hi mx := by simp [slV]
theorem viewR :
    (∀ A esz m p sz lo l k, isE A esz k (.view m p sz lo l) = isV m p sz lo l esz k (fldsO (derefP p (A.o m)))) ∧ (∀ A m p sz lo l, lenE A (.view m p sz lo l) = some (.int .i64 l)) ∧
    (∀ A esz lo hi mx n p l0 k, slE A esz lo hi mx (.view n p esz l0 k) = slV n p esz l0 k esz lo hi mx (fldsO (derefP p (A.o n)))) ∧ (∀ n p sz l0 k lo hi mx fs, slV n p sz l0 k sz lo hi mx (some fs) = sliceV n p sz l0 k fs.length lo hi mx) ∧
    (∀ esz z x rest A, opR A none (.clr esz z x) rest = clrO A esz z (aops rest) (ev A x)) ∧ (∀ rest A d esz, opR A d (.bs0 esz) rest = aops rest (A.putO d (.c0 esz))) :=
  ⟨isE_view, lenE_view, slE_view, slV_some, o_clr, fun _ _ _ _ => rfl⟩

theorem retO_ret (rs : List RV) (post : Post) (A : AState) : retO rs post .ret A = RetO rs post A := rfl
theorem retO_normal (rs : List RV) (post : Post) (A : AState) : retO rs post .normal A = RetO rs post A := rfl

end Go.Abs

/-
  FUNCTIONS OF slices BY CONTRACT, over given marks: Clone, DeleteFunc.
-/
namespace Go.Proofs.Ytkjkbpgdpnapfaa
open Go Go.Abs
open Go.Abs.Enc (enc)

instance : Lean0 Given := ⟨fun g => by
  show (AV.agg [.int .i64 g.owner, enc g.mark]).lean = true
  simp only [AV.lean, AV.leans, e_lean, Bool.and_self]⟩

def g0 : Given := ⟨0, zero6⟩
theorem e_g0 : AV.agg [.int .i64 0, .agg [.int .i64 0, .int .i64 0, .int .i64 0, .int .i64 0, .int .i64 0, .int .i64 0]] = enc g0 := rfl

theorem map_only (p : Nat → Bool) (l : List Given) : (AV.agg (l.map enc)).only p = true := by simp only [AV.only]; exact onlys_map p l
theorem map_lean (l : List Given) : (AV.agg (l.map enc)).lean = true := by simp only [AV.lean]; exact leans_map l

/-- A slice of given marks of the caller's own, with room behind it. -/
def rowG (k : Nat) (l : List Given) (m : Nat) : List (Nat × AO) := [(k, .box (.agg ((l ++ List.replicate m g0).map enc)))]

def clonePost (l : List Given) : Post := fun r os' => (l = [] ∧ (r = .nils 7 ∨ r = .c0 7) ∧ os' = []) ∨ (l ≠ [] ∧ ∃ m, r = .view 7 [] 7 0 l.length ∧ os' = rowG 7 l m)

theorem F85 (l : List Given) (hl : l.length ≤ 1000) : CtrO Try.prog 85 [enc l] [] (clonePost l) := by
  refine CtrO.mk' Try.func85 ca85 cc85 cr85 (Nat.le_of_ble_eq_true rfl) (Nat.le_of_ble_eq_true rfl) (fun m hm => by simp [isIn, lookO] at hm) (fun hwf W0 D0 E1 => ?_)
  simp only [c85, r85, idx, Nat.zero_add, Nat.reduceAdd]
  refine AW.seq (AW.reg cd85_0 fun K hK => ?_)
  simp only [g85_0, bR, Nat.reduceEqDiff, reduceIte, Int.reduceBNe, Int.reduceBEq]
  refine .done (hK _ ?_); clear hK K; simp only [thenQ, blockQ]
  refine AW.seq (AW.seq ?_)
  by_cases hn : l = []
  · subst hn
    refine AW.reg cd85_1 fun K hK => ?_
    simp only [g85_1, bR, Nat.reduceEqDiff, reduceIte, Int.reduceBNe, Int.reduceBEq]
    simp only [und_enc, List.isEmpty_nil, nilR]
    refine .any rfl fun b _ => ?_
    simp only [bR, Nat.reduceEqDiff, reduceIte, Int.reduceBNe, Int.reduceBEq]
    generalize (b == 0) = t
    cases t
    · refine .done (hK _ ?_); clear hK K; simp only [thenQ, blockQ]
      refine AW.ite ?_
      simp only [condQ, bR, Nat.reduceEqDiff, reduceIte, Int.reduceBNe, Int.reduceBEq]
      refine ⟨fun h => ?_, fun h => ?_⟩
      · cases h
      refine AW.skip ?_; simp only [thenQ, blockQ, reduceIte, Nat.reduceEqDiff]
      refine AW.seq (AW.reg cd85_3 fun K hK => ?_)
      simp only [g85_3, bR, Nat.reduceEqDiff, reduceIte, Int.reduceBNe, Int.reduceBEq]
      simp only [viewR, e_g0, appR_nothing (α := Given) _ rfl, bR, Nat.reduceEqDiff, reduceIte, Int.reduceBNe, Int.reduceBEq]
      refine .done (hK _ ?_); clear hK K; simp only [thenQ, blockQ]
      refine AW.ret ?_
      simp only [blockQ, thenQ, retO_ret]
      exact ⟨[], [.c0 7], held0, ⟨⟨.c0 7, rfl, .inl ⟨rfl, rfl, rfl⟩⟩, trivial⟩, .inl ⟨rfl, .inr rfl, rfl⟩⟩
    · refine .done (hK _ ?_); clear hK K; simp only [thenQ, blockQ]
      refine AW.ite ?_
      simp only [condQ, bR, Nat.reduceEqDiff, reduceIte, Int.reduceBNe, Int.reduceBEq]
      refine ⟨fun h => ?_, fun h => ?_⟩
      · refine AW.seq (AW.reg cd85_2 fun K hK => ?_)
        simp only [g85_2, bR, Nat.reduceEqDiff, reduceIte, Int.reduceBNe, Int.reduceBEq]
        refine .done (hK _ ?_); clear hK K; simp only [thenQ, blockQ]
        refine AW.ret ?_
        simp only [blockQ, thenQ, retO_ret]
        exact ⟨[], [.nils 7], held0, ⟨⟨.nils 7, rfl, .inl ⟨rfl, rfl, rfl⟩⟩, trivial⟩, .inl ⟨rfl, .inl rfl, rfl⟩⟩
      · cases h
  · have hu : und (enc l) = false := by rw [und_enc]; simpa using hn
    refine AW.reg cd85_1 fun K hK => ?_
    simp only [g85_1, bR, Nat.reduceEqDiff, reduceIte, Int.reduceBNe, Int.reduceBEq]
    simp only [hu, nilE_enc _ l hn, bR, Nat.reduceEqDiff, reduceIte, Int.reduceBNe, Int.reduceBEq]
    refine .done (hK _ ?_); clear hK K; simp only [thenQ, blockQ]
    refine AW.ite ?_
    simp only [condQ, bR, Nat.reduceEqDiff, reduceIte, Int.reduceBNe, Int.reduceBEq]
    refine ⟨fun h => ?_, fun h => ?_⟩
    · cases h
    refine AW.skip ?_; simp only [thenQ, blockQ, reduceIte, Nat.reduceEqDiff]
    refine AW.seq (AW.reg cd85_3 fun K hK => ?_)
    simp only [g85_3, bR, Nat.reduceEqDiff, reduceIte, Int.reduceBNe, Int.reduceBEq]
    simp only [viewR, e_g0, bR, Nat.reduceEqDiff, reduceIte, Int.reduceBNe, Int.reduceBEq]
    refine WP.appNew g0 rfl hn rfl (by omega) (by simp only [maxLen]; omega) fun m => ?_
    simp only [bR, Nat.reduceEqDiff, reduceIte, Int.reduceBNe, Int.reduceBEq]
    refine .done (hK _ ?_); clear hK K; simp only [thenQ, blockQ]
    refine AW.ret ?_
    simp only [blockQ, thenQ, retO_ret]
    exact ⟨rowG 7 l m, [.view 7 [] 7 0 l.length], held1 rfl (fun p => map_only p _), ⟨⟨_, rfl, .inl ⟨rfl, rfl, rfl⟩⟩, trivial⟩, .inr ⟨hn, m, rfl, rfl⟩⟩

end Go.Proofs.Ytkjkbpgdpnapfaa

/-
  FUNCTIONS OF slices BY CONTRACT, over given marks: DeleteFunc.
-/
namespace Go.Proofs.Ytkjkbpgdpnapfaa
open Go Go.Abs
open Go.Abs.Enc (enc)

theorem F73n (f : FuncId) (caps : List AV) (hcaps : AV.dones caps = true) : Ctr Try.prog 73 [enc ([] : List Given), .func f caps] (enc ([] : List Given)) := by
  refine Ctr.mk' Try.func73 ca73 cc73 cr73 (Nat.le_of_ble_eq_true rfl) (fun hwf W0 D0 E1 => ?_)
  simp only [c73, r73, idx, Nat.zero_add, Nat.reduceAdd]
  have hcl : AV.closeds caps = true := dones_closed caps hcaps
  have hfc : ∀ bx A, fins bx A caps = some caps := fun bx A => fins_dones bx A caps hcaps
  refine AW.seq (AW.reg cd73_0 fun K hK => ?_)
  simp only [g73_0, bR, Nat.reduceEqDiff, reduceIte, Int.reduceBNe, Int.reduceBEq]
  refine .done (hK _ ?_); clear hK K; simp only [thenQ, blockQ]
  refine AW.seq (AW.reg cd73_1 fun K hK => ?_)
  simp only [g73_1, bR, Nat.reduceEqDiff, reduceIte, Int.reduceBNe, Int.reduceBEq]
  simp only [e_fin, hfc, bR, Nat.reduceEqDiff, reduceIte, Int.reduceBNe, Int.reduceBEq]
  refine .flat _ (F108 [] f caps hcaps (fun _ => false) (fun x hx => by cases hx)) rfl ?_
  simp only [List.findIdx?_nil, bR, Nat.reduceEqDiff, reduceIte, Int.reduceBNe, Int.reduceBEq]
  refine .done (hK _ ?_); clear hK K; simp only [thenQ, blockQ]
  refine AW.seq (AW.seq ?_)
  refine AW.reg cd73_2 fun K hK => ?_
  simp only [g73_2, bR, Nat.reduceEqDiff, reduceIte, Int.reduceBNe, Int.reduceBEq]
  refine .done (hK _ ?_); clear hK K; simp only [thenQ, blockQ]
  refine AW.ite ?_
  simp only [condQ, bR, Nat.reduceEqDiff, reduceIte, Int.reduceBNe, Int.reduceBEq]
  refine ⟨fun h => ?_, fun h => ?_⟩
  · refine AW.seq (AW.reg cd73_3 fun K hK => ?_)
    simp only [g73_3, bR, Nat.reduceEqDiff, reduceIte, Int.reduceBNe, Int.reduceBEq]
    refine .done (hK _ ?_); clear hK K; simp only [thenQ, blockQ]
    refine AW.ret ?_
    simp only [blockQ, thenQ, bR, Nat.reduceEqDiff, reduceIte, Int.reduceBNe, Int.reduceBEq]
    simp only [e_fin, bR, Nat.reduceEqDiff, reduceIte, Int.reduceBNe, Int.reduceBEq]
  · cases h

def keep (p : Given → Bool) (l : List Given) : List Given := l.filter fun x => !p x
def delPost (k : Nat) (l : List Given) : Post := fun r os' => ∃ m, r = .view k [] 7 0 l.length ∧ os' = rowG k l m

theorem onlys_rep (p : Nat → Bool) (m : Nat) (x : Given) : AV.onlys p (List.replicate m (enc x)) = true := by
  have : List.replicate m (enc x) = (List.replicate m x).map (enc (α := Given)) := by simp
  rw [this]; exact onlys_map p _
theorem onlys_set (p : Nat → Bool) (xs : List Given) (i : Nat) (v : Given) : AV.onlys p ((xs.map enc).set i (enc v)) = true := by
  rw [← List.map_set]; exact onlys_map p _
theorem rowG_get {xs : List Given} {m j : Nat} (h : j < xs.length) : ((xs ++ List.replicate m g0).map (enc (α := Given)))[0 + j]? = some (enc xs[j]) := by
  rw [Nat.zero_add, List.getElem?_map, List.getElem?_append_left h, List.getElem?_eq_getElem h]; rfl
theorem rowG_set {xs : List Given} {m i : Nat} (h : i < xs.length) (v : Given) : ((xs ++ List.replicate m g0).map (enc (α := Given))).set (0 + i) (enc v) = (xs.set i v ++ List.replicate m g0).map enc := by
  rw [Nat.zero_add, ← List.map_set, List.set_append_left _ _ h]
theorem take_row (l : List Given) (m : Nat) : (l ++ List.replicate m g0).take l.length = l := List.take_left

theorem filter_take_succ (p : Given → Bool) (l : List Given) {j : Nat} (h : j < l.length) : keep p (l.take (j + 1)) = keep p (l.take j) ++ (if p l[j] then [] else [l[j]]) := by
  rw [List.take_succ_eq_append_getElem h]
  simp only [keep, List.filter_append, List.filter_cons, List.filter_nil]
  cases p l[j] <;> simp

theorem F73 (l : List Given) (f : FuncId) (caps : List AV) (hcaps : AV.dones caps = true) (p : Given → Bool) (hf : ∀ x ∈ l, Ctr Try.prog f (enc x :: caps) (enc (p x))) (hlen : l.length ≤ 1000) (m : Nat) :
    CtrO Try.prog 73 [.view 1000000 [] 7 0 l.length, .func f caps] (rowG 1000000 l m) (delPost 1000000 (keep p l)) := by
  refine CtrO.mk' Try.func73 ca73 cc73 cr73 (Nat.le_of_ble_eq_true rfl) (Nat.le_of_ble_eq_true rfl) (fun m hm => by rw [isIn_one.1 hm]; exact Nat.le_refl _) (fun hwf W0 D0 E1 => ?_)
  simp only [c73, r73, idx, Nat.zero_add, Nat.reduceAdd]
  have hcl : AV.closeds caps = true := dones_closed caps hcaps
  have hfc : ∀ bx A, fins bx A caps = some caps := fun bx A => fins_dones bx A caps hcaps
  have hon : ∀ q, AV.onlys q caps = true := fun q => onlys_closed q caps hcl
  simp only [rowG]
  refine AW.seq (AW.reg cd73_0 fun K hK => ?_)
  simp only [g73_0, bR, Nat.reduceEqDiff, reduceIte, Int.reduceBNe, Int.reduceBEq]
  refine .done (hK _ ?_); clear hK K; simp only [thenQ, blockQ]
  refine AW.seq (AW.reg cd73_1 fun K hK => ?_)
  simp only [g73_1, bR, Nat.reduceEqDiff, reduceIte, Int.reduceBNe, Int.reduceBEq]
  simp only [hfc, finV_take (α := Given) (sz := 7) rfl, take_row, bR, Nat.reduceEqDiff, reduceIte, Int.reduceBNe, Int.reduceBEq]
  refine .flat _ (F108 l f caps hcaps p hf) rfl ?_
  simp only [bR, Nat.reduceEqDiff, reduceIte, Int.reduceBNe, Int.reduceBEq]
  refine .done (hK _ ?_); clear hK K; simp only [thenQ, blockQ]
  generalize hfi : l.findIdx? p = fi
  cases fi with
  | none =>
    rw [List.findIdx?_eq_none_iff] at hfi
    have hk : keep p l = l := by
      simp only [keep, List.filter_eq_self]; intro x hx; simp [hfi x hx]
    refine AW.seq (AW.seq ?_)
    refine AW.reg cd73_2 fun K hK => ?_
    simp only [g73_2, bR, Nat.reduceEqDiff, reduceIte, Int.reduceBNe, Int.reduceBEq]
    refine .done (hK _ ?_); clear hK K; simp only [thenQ, blockQ]
    refine AW.ite ?_
    simp only [condQ, bR, Nat.reduceEqDiff, reduceIte, Int.reduceBNe, Int.reduceBEq]
    refine ⟨fun h => ?_, fun h => ?_⟩
    · refine AW.seq (AW.reg cd73_3 fun K hK => ?_)
      simp only [g73_3, bR, Nat.reduceEqDiff, reduceIte, Int.reduceBNe, Int.reduceBEq]
      refine .done (hK _ ?_); clear hK K; simp only [thenQ, blockQ]
      refine AW.ret ?_
      simp only [blockQ, thenQ, retO_ret]
      rw [hk]
      exact ⟨rowG 1000000 l m, [.view 1000000 [] 7 0 l.length], held1 rfl (fun p => map_only p _), ⟨⟨_, rfl, .inl ⟨rfl, rfl, rfl⟩⟩, trivial⟩, m, rfl, rfl⟩
    · cases h
  | some i0 =>
    obtain ⟨q1, q2, q3⟩ := List.findIdx?_eq_some_iff_getElem.1 hfi
    have hstart : l.take i0 = keep p (l.take (i0 + 1)) := by
      rw [filter_take_succ p l q1, q2]
      simp only [if_true, List.append_nil, keep]
      symm
      rw [List.filter_eq_self]
      intro x hx
      rw [List.mem_take_iff_getElem] at hx
      obtain ⟨j, hj, rfl⟩ := hx
      have := q3 j (by omega)
      simpa using this
    refine AW.seq (AW.seq ?_)
    refine AW.reg cd73_2 fun K hK => ?_
    simp only [g73_2, bR, Nat.reduceEqDiff, reduceIte, Int.reduceBNe, Int.reduceBEq]
    refine .done (hK _ ?_); clear hK K; simp only [thenQ, blockQ]
    refine AW.ite ?_
    simp only [condQ, bR, Nat.reduceEqDiff, reduceIte, Int.reduceBNe, Int.reduceBEq]
    refine ⟨fun h => ?_, fun h => ?_⟩
    · simp at h
    refine AW.skip ?_; simp only [thenQ, blockQ, reduceIte, Nat.reduceEqDiff]
    refine AW.seq (AW.seq ?_)
    refine AW.reg cd73_4 fun K hK => ?_
    simp only [g73_4, bR, Nat.reduceEqDiff, reduceIte, Int.reduceBNe, Int.reduceBEq]
    refine .done (hK _ ?_); clear hK K; simp only [thenQ, blockQ]
    refine AW.block (AW.loop (fun s : List Given × Nat × Nat => mkA [(0, .view 1000000 [] 7 0 l.length), (1, .func f caps), (5, .int .i64 s.2.1), (6, .int .i64 s.2.2)] [(1000000, .box (.agg ((s.1 ++ List.replicate m g0).map enc)))])
      (fun s => s.1.length = l.length ∧ s.2.1 < s.2.2 ∧ s.2.2 ≤ l.length ∧ s.1.take s.2.1 = keep p (l.take s.2.2) ∧ s.1.drop s.2.2 = l.drop s.2.2) (fun s => l.length - s.2.2) (l, i0, i0 + 1) ⟨rfl, by simp only; omega, by simp only; omega, hstart, rfl⟩ ?_ ?_)
    · rw [wrap_id _ (by omega) (by omega)]
      refine Sub.of_lists ?_ ?_ ?_ ?_ <;> simp [subT, subO, onlyT, onlyO, isIn, look_cons, lookO_cons, lookO_nil, AV.only, AV.onlys, AO.only, onlys_map, onlys_append, e_only, e_int, e_bool, hon, onlys_rep, onlys_set]
    · rintro ⟨xs, i, j⟩ ⟨c1, c2, c3, c4, c5⟩
      simp only at c1 c2 c3 c4 c5 ⊢
      refine AW.seq (AW.seq ?_)
      refine AW.reg cd73_5 fun K hK => ?_
      simp only [g73_5, bR, Nat.reduceEqDiff, reduceIte, Int.reduceBNe, Int.reduceBEq]
      simp only [viewR, bR, Nat.reduceEqDiff, reduceIte, Int.reduceBNe, Int.reduceBEq]
      refine .done (hK _ ?_); clear hK K; simp only [thenQ, blockQ]
      refine AW.ite ?_
      simp only [condQ, bR, Nat.reduceEqDiff, reduceIte, Int.reduceBNe, Int.reduceBEq]
      refine ⟨fun h => ?_, fun h => ?_⟩
      · have hj : j < l.length := by simpa using h
        have hjx : j < xs.length := by omega
        have hix : i < xs.length := by omega
        have hxj : xs[j] = l[j] := by
          have h1 : (xs.drop j)[0]? = (l.drop j)[0]? := by rw [c5]
          simpa [hj, hjx] using h1
        refine AW.skip ?_; simp only [thenQ, blockQ, reduceIte, Nat.reduceEqDiff]
        refine AW.seq (AW.block ?_)
        refine AW.seq (AW.reg cd73_6 fun K hK => ?_)
        simp only [g73_6, bR, Nat.reduceEqDiff, reduceIte, Int.reduceBNe, Int.reduceBEq]
        simp only [viewR, isV_ok (sz := 7) hj, List.nil_append, bR, Nat.reduceEqDiff, reduceIte, Int.reduceBNe, Int.reduceBEq]
        simp only [rowG_get hjx, hxj, typR, bR, Nat.reduceEqDiff, reduceIte, Int.reduceBNe, Int.reduceBEq]
        rw [stR3_ok (e_isVal _) (by rw [e_okS]; rfl) ((e_sh _).trans rfl)]
        simp only [typR, useR, okR, bR, Nat.reduceEqDiff, reduceIte, Int.reduceBNe, Int.reduceBEq]
        refine .done (hK _ ?_); clear hK K; simp only [thenQ, blockQ]
        refine AW.seq (AW.reg cd73_7 fun K hK => ?_)
        simp only [g73_7, bR, Nat.reduceEqDiff, reduceIte, Int.reduceBNe, Int.reduceBEq]
        simp only [typR, useR, okR, e_fin, hfc, List.cons_append, List.nil_append, bR, Nat.reduceEqDiff, reduceIte, Int.reduceBNe, Int.reduceBEq]
        refine .flat _ (hf _ (List.getElem_mem hj)) rfl ?_
        simp only [bR, Nat.reduceEqDiff, reduceIte, Int.reduceBNe, Int.reduceBEq]
        refine .done (hK _ ?_); clear hK K; simp only [thenQ, blockQ]
        refine AW.ite ?_
        simp only [condQ, bR, Nat.reduceEqDiff, reduceIte, Int.reduceBNe, Int.reduceBEq]
        refine ⟨fun h => ?_, fun h => ?_⟩
        · have hpj : p l[j] = false := by simpa using h
          refine AW.seq (AW.reg cd73_8 fun K hK => ?_)
          simp only [g73_8, bR, Nat.reduceEqDiff, reduceIte, Int.reduceBNe, Int.reduceBEq]
          simp only [typR, useR, okR, e_fin, viewR, isV_ok (sz := 7) (show i < l.length by omega), List.nil_append, bR, Nat.reduceEqDiff, reduceIte, Int.reduceBNe, Int.reduceBEq]
          simp only [rowG_get hix, bR, Nat.reduceEqDiff, reduceIte, Int.reduceBNe, Int.reduceBEq]
          rw [stR3_ok (e_isVal _) (by rw [e_okS]; rfl) ((e_sh _).trans (e_sh _).symm)]
          simp only [rowG_get hix, rowG_set hix, bR, Nat.reduceEqDiff, reduceIte, Int.reduceBNe, Int.reduceBEq]
          refine .done (hK _ ?_); clear hK K; simp only [thenQ, blockQ]
          refine AW.reg cd73_9 fun K hK => ?_
          simp only [g73_9, bR, Nat.reduceEqDiff, reduceIte, Int.reduceBNe, Int.reduceBEq]
          refine .done (hK _ ?_); clear hK K; simp only [thenQ, blockQ]
          refine AW.reg cd73_10 fun K hK => ?_
          simp only [g73_10, bR, Nat.reduceEqDiff, reduceIte, Int.reduceBNe, Int.reduceBEq]
          refine .done (hK _ ?_); clear hK K; simp only [thenQ, blockQ]
          refine ⟨(xs.set i l[j], i + 1, j + 1), ⟨by simp [c1], by simp only; omega, by simp only; omega, ?_, ?_⟩, by simp only; omega, ?_⟩
          · simp only
            rw [filter_take_succ p l hj, hpj, ← c4]
            simp only [Bool.false_eq_true, if_false]
            rw [List.take_succ_eq_append_getElem (by simpa using hix), List.take_set_of_le (Nat.le_refl _)]
            simp
          · simp only
            rw [List.drop_set_of_lt (by omega)]
            have : (xs.drop j).drop 1 = (l.drop j).drop 1 := by rw [c5]
            simpa [List.drop_drop] using this
          · simp only
            rw [wrap_id _ (by omega) (by omega), wrap_id _ (by omega) (by omega)]
            refine Sub.of_lists ?_ ?_ ?_ ?_ <;> simp [subT, subO, onlyT, onlyO, isIn, look_cons, lookO_cons, lookO_nil, AV.only, AV.onlys, AO.only, onlys_map, onlys_append, e_only, e_int, e_bool, hon, onlys_rep, onlys_set]
        · have hpj : p l[j] = true := by simpa using h
          refine AW.skip ?_; simp only [thenQ, blockQ, reduceIte, Nat.reduceEqDiff]
          refine AW.reg cd73_10 fun K hK => ?_
          simp only [g73_10, bR, Nat.reduceEqDiff, reduceIte, Int.reduceBNe, Int.reduceBEq]
          refine .done (hK _ ?_); clear hK K; simp only [thenQ, blockQ]
          refine ⟨(xs, i, j + 1), ⟨c1, by simp only; omega, by simp only; omega, ?_, ?_⟩, by simp only; omega, ?_⟩
          · simp only
            rw [filter_take_succ p l hj, hpj, ← c4]
            simp
          · simp only
            have : (xs.drop j).drop 1 = (l.drop j).drop 1 := by rw [c5]
            simpa [List.drop_drop] using this
          · simp only
            rw [wrap_id _ (by omega) (by omega)]
            refine Sub.of_lists ?_ ?_ ?_ ?_ <;> simp [subT, subO, onlyT, onlyO, isIn, look_cons, lookO_cons, lookO_nil, AV.only, AV.onlys, AO.only, onlys_map, onlys_append, e_only, e_int, e_bool, hon, onlys_rep, onlys_set]
      · have hj : j = l.length := by simp at h; omega
        subst hj
        rw [List.take_length] at c4
        have hlk : (keep p l).length = i := by rw [← c4, List.length_take]; omega
        have htot : ((xs ++ List.replicate m g0).map (enc (α := Given))).length = l.length + m := by simp [c1]
        refine AW.exit ?_; simp only [thenQ, blockQ, reduceIte, Nat.reduceEqDiff]
        refine AW.seq (AW.reg cd73_11 fun K hK => ?_)
        simp only [g73_11, bR, Nat.reduceEqDiff, reduceIte, Int.reduceBNe, Int.reduceBEq]
        simp only [viewR, htot, Option.map_none, sliceV_lo (show i ≤ l.length by omega) (show l.length ≤ l.length + m by omega) (show i < l.length + m by omega), e_g0, bR, Nat.reduceEqDiff, reduceIte, Int.reduceBNe, Int.reduceBEq]
        rw [clrO_enc g0 rfl (by simp [c1]; omega)]
        have hcont : (xs ++ List.replicate m g0).take i ++ (List.replicate (l.length - i) g0 ++ (xs ++ List.replicate m g0).drop (i + (l.length - i))) = keep p l ++ List.replicate (l.length - i + m) g0 := by
          rw [List.take_append_of_le_length (by omega), c4]
          have e1 : i + (l.length - i) = xs.length := by omega
          rw [e1, List.drop_left, List.replicate_append_replicate]
        rw [hcont]
        simp only [bR, Nat.reduceEqDiff, reduceIte, Int.reduceBNe, Int.reduceBEq]
        refine .done (hK _ ?_); clear hK K; simp only [thenQ, blockQ]
        have htot2 : ((keep p l ++ List.replicate (l.length - i + m) g0).map (enc (α := Given))).length = l.length + m := by simp [hlk]; omega
        refine AW.seq (AW.reg cd73_12 fun K hK => ?_)
        simp only [g73_12, bR, Nat.reduceEqDiff, reduceIte, Int.reduceBNe, Int.reduceBEq]
        simp only [viewR, htot2, Option.map_none, sliceV_hi (show i ≤ l.length + m by omega) (show 0 < l.length + m by omega), bR, Nat.reduceEqDiff, reduceIte, Int.reduceBNe, Int.reduceBEq]
        refine .done (hK _ ?_); clear hK K; simp only [thenQ, blockQ]
        refine AW.ret ?_
        simp only [blockQ, thenQ, retO_ret]
        exact ⟨rowG 1000000 (keep p l) (l.length - i + m), [.view 1000000 [] 7 0 i], held1 rfl (fun p => map_only p _), ⟨⟨_, rfl, .inl ⟨rfl, rfl, rfl⟩⟩, trivial⟩, l.length - i + m, by rw [hlk]; rfl, rfl⟩

end Go.Proofs.Ytkjkbpgdpnapfaa

/-
  FUNCTIONS OF THE PACKAGE mark BY CONTRACT: possible, owners, Owners, Owner.
-/
namespace Go.Proofs.Ytkjkbpgdpnapfaa
open Go Go.Abs
open Go.Abs.Enc (enc)

theorem F105 (m : Marks) (r : Arr 6 Int) (g : Given) (hg : okMark g.mark = true) : Ctr Try.prog 105 (enc g :: [.ref (enc m), .ref (enc r)]) (enc (decide (m.fls < costOf m.wear g.mark r))) := by
  refine Ctr.mk' Try.func105 ca105 cc105 cr105 (Nat.le_of_ble_eq_true rfl) (fun hwf W0 D0 E1 => ?_)
  simp only [c105, r105, idx, Nat.zero_add, Nat.reduceAdd]
  refine AW.seq (AW.reg cd105_0 fun K hK => ?_)
  simp only [g105_0, bR, Nat.reduceEqDiff, reduceIte, Int.reduceBNe, Int.reduceBEq]
  simp only [e_isVal, bR, Nat.reduceEqDiff, reduceIte, Int.reduceBNe, Int.reduceBEq]
  refine .done (hK _ ?_); clear hK K; simp only [thenQ, blockQ]
  refine AW.seq (AW.reg cd105_1 fun K hK => ?_)
  simp only [g105_1, bR, Nat.reduceEqDiff, reduceIte, Int.reduceBNe, Int.reduceBEq]
  simp only [typR, useR, okR, e_fin, bR, Nat.reduceEqDiff, reduceIte, Int.reduceBNe, Int.reduceBEq]
  refine .flat _ (F88 m.wear g.mark r hg) rfl ?_
  simp only [typR, useR, okR, bR, Nat.reduceEqDiff, reduceIte, Int.reduceBNe, Int.reduceBEq]
  refine .done (hK _ ?_); clear hK K; simp only [thenQ, blockQ]
  refine AW.ret ?_
  simp only [blockQ, thenQ, bR, Nat.reduceEqDiff, reduceIte, Int.reduceBNe, Int.reduceBEq]

def possG (m : Marks) (r : Arr 6 Int) : List Given := keep (fun g => decide (m.fls < costOf m.wear g.mark r)) m.given
def possPost (d : Nat) (m : Marks) (r : Arr 6 Int) : Post := fun x os' => (possG m r = [] ∧ x = enc ([] : List Given) ∧ os' = []) ∨ ∃ k, x = .view d [] 7 0 (possG m r).length ∧ os' = rowG d (possG m r) k

theorem F65 (m : Marks) (r : Arr 6 Int) (hm : ∀ g ∈ m.given, okMark g.mark = true) (hlen : m.given.length ≤ 1000) : CtrO Try.prog 65 [enc m, enc r] [] (possPost 7 m r) := by
  refine CtrO.mk' Try.func65 ca65 cc65 cr65 (Nat.le_of_ble_eq_true rfl) (Nat.le_of_ble_eq_true rfl) (fun m hm => by simp [isIn, lookO] at hm) (fun hwf W0 D0 E1 => ?_)
  simp only [c65, r65, idx, Nat.zero_add, Nat.reduceAdd]
  refine AW.seq (AW.reg cd65_0 fun K hK => ?_)
  simp only [g65_0, bR, Nat.reduceEqDiff, reduceIte, Int.reduceBNe, Int.reduceBEq]
  simp only [e_isVal, bR, Nat.reduceEqDiff, reduceIte, Int.reduceBNe, Int.reduceBEq]
  refine .done (hK _ ?_); clear hK K; simp only [thenQ, blockQ]
  refine AW.seq (AW.reg cd65_1 fun K hK => ?_)
  simp only [g65_1, bR, Nat.reduceEqDiff, reduceIte, Int.reduceBNe, Int.reduceBEq]
  simp only [typR, useR, okR, e_fin, bR, Nat.reduceEqDiff, reduceIte, Int.reduceBNe, Int.reduceBEq]
  refine .obj false [(7, 7)] [] [enc m.given] (clonePost m.given) rfl (F85 m.given hlen) Gvn.nil ⟨.inl ⟨(e_ren _ _).symm, e_only _ _, e_isVal _⟩, trivial⟩ ?_ ?_
  · rintro x os' (⟨_, h | h, rfl⟩ | ⟨_, k, rfl, rfl⟩)
    · subst h; exact Bck.nil (fun _ => rfl) (fun h => by cases h)
    · subst h; exact Bck.nil (fun _ => rfl) (fun h => by cases h)
    · exact Bck.new1 (fun p => map_only p _) (fun h => by cases h) rfl (fun h => by cases h) rfl (by decide)
  · have hd : AV.dones [.ref (enc m), .ref (enc r)] = true := by simp only [AV.dones, AV.done, e_closed, Bool.and_self]
    rintro x os' (⟨hn, h, rfl⟩ | ⟨hn, k, rfl, rfl⟩)
    · have hp : possG m r = [] := by simp [possG, keep, hn]
      have key : ∀ x, (x = .nils 7 ∨ x = .c0 7) → fin true (mkA [] []) x = some (enc ([] : List Given)) := by rintro x (rfl | rfl) <;> rfl
      have hren : ∀ x : AV, (x = .nils 7 ∨ x = .c0 7) → x.ren (rnm [(7, 7)]) = x ∧ x.isVal = true := by rintro x (rfl | rfl) <;> exact ⟨by simp only [AV.ren], rfl⟩
      rw [(hren x h).1]
      simp only [renR, List.nil_append, List.all_cons, List.all_nil, AV.isVal, Bool.and_self, bR, Nat.reduceEqDiff, reduceIte, Int.reduceBNe, Int.reduceBEq]
      have hfx : ∀ A, fin true A x = some (enc ([] : List Given)) := fun A => by rcases h with rfl | rfl <;> simp only [fin, e_list, List.map_nil] <;> rfl
      refine .free [2, 3] (enc ([] : List Given)) rfl (F73n 105 [.ref (enc m), .ref (enc r)] hd) ?_ ?_ ?_
      · simp only [hfx, keepO, List.filter_cons, List.filter_nil, List.contains_cons, Nat.reduceBEq, Bool.or_false, Bool.or_true, Bool.true_or, BEq.rfl, e_closed, bR, Nat.reduceEqDiff, reduceIte, Int.reduceBNe, Int.reduceBEq]
      · simp [dropO, onlyO]
      · simp only [fgt, dropO, List.filter_cons, List.filter_nil, List.contains_cons, Nat.reduceBEq, Bool.or_false, Bool.or_true, Bool.true_or, BEq.rfl, List.map_cons, List.map_nil, bR, Nat.reduceEqDiff, reduceIte, Int.reduceBNe, Int.reduceBEq]
        refine .done (hK _ ?_); clear hK K; simp only [thenQ, blockQ]
        refine AW.ret ?_
        simp only [blockQ, thenQ, retO_ret]
        exact ⟨[], [enc ([] : List Given)], held0, ⟨⟨_, rfl, .inl ⟨rfl, rfl, rfl⟩⟩, trivial⟩, .inl ⟨hp, rfl, rfl⟩⟩
    · simp only [rowG, renR, rens_map_enc, List.cons_append, List.nil_append, List.all_cons, List.all_nil, AV.isVal, Bool.and_self, bR, Nat.reduceEqDiff, reduceIte, Int.reduceBNe, Int.reduceBEq]
      refine .obj true [(1000000, 7)] (rowG 1000000 m.given k) [.view 1000000 [] 7 0 m.given.length, .func 105 [.ref (enc m), .ref (enc r)]] (delPost 1000000 (possG m r)) rfl
        (F73 m.given 105 [.ref (enc m), .ref (enc r)] hd (fun g => decide (m.fls < costOf m.wear g.mark r)) (fun g hg => F105 m r g (hm g hg)) hlen k) ⟨?_, ?_⟩ ⟨.inl ⟨?_, ?_, rfl⟩, .inr ?_, trivial⟩ ?_ ?_
      · intro n x h
        simp only [rowG, lookO] at h
        split at h
        · rename_i hn'
          subst hn'
          simp only [Option.some.injEq] at h
          subst h
          exact ⟨by simp only [renR, rens_map_enc, bR, Nat.reduceEqDiff, reduceIte, Int.reduceBNe, Int.reduceBEq], map_only _ _, rfl⟩
        · cases h
      · intro a b ha hb _
        rw [isIn_one.1 ha, isIn_one.1 hb]
      · simp only [renR, bR, Nat.reduceEqDiff, reduceIte, Int.reduceBNe, Int.reduceBEq]
      · exact isIn_one.2 rfl
      · simp only [names, rowG, rnm, dropO, List.filter_cons, List.filter_nil, List.map_cons, List.map_nil, List.contains_cons, List.contains_nil, Nat.reduceBEq, Bool.or_false, Bool.or_true, Bool.true_or, BEq.rfl, e_closed, bR, Nat.reduceEqDiff, reduceIte, Int.reduceBNe, Int.reduceBEq]
      · rintro x os' ⟨k', rfl, rfl⟩
        exact Bck.one (fun p => map_only p _) (fun _ => map_lean _) (isIn_one.2 rfl) (fun _ => rfl)
      · rintro x os' ⟨k', rfl, rfl⟩
        simp only [rowG, renR, rens_map_enc, List.cons_append, List.nil_append, bR, Nat.reduceEqDiff, reduceIte, Int.reduceBNe, Int.reduceBEq]
        refine .done (hK _ ?_); clear hK K; simp only [thenQ, blockQ]
        refine AW.ret ?_
        simp only [blockQ, thenQ, retO_ret]
        exact ⟨rowG 7 (possG m r) k', [.view 7 [] 7 0 (possG m r).length], held1 rfl (fun p => map_only p _), ⟨⟨_, rfl, .inl ⟨rfl, rfl, rfl⟩⟩, trivial⟩, .inr ⟨k', rfl, rfl⟩⟩

end Go.Proofs.Ytkjkbpgdpnapfaa

/-
  FUNCTIONS OF THE PACKAGE mark BY CONTRACT: owners, Owners, Owner.
-/
namespace Go.Proofs.Ytkjkbpgdpnapfaa
open Go Go.Abs
open Go.Abs.Enc (enc)

def ownL (l : List Given) (i : Nat) : List Int := (l.take i).map (·.owner)
theorem ownL_zero (l : List Given) : ownL l 0 = [] := by simp [ownL]
theorem ownL_succ {l : List Given} {i : Nat} (h : i < l.length) : ownL l (i + 1) = ownL l i ++ [l[i].owner] := by
  simp only [ownL]; rw [List.take_succ_eq_append_getElem h, List.map_append]; rfl
theorem ownL_len {l : List Given} {i : Nat} (h : i ≤ l.length) : (ownL l i).length = i := by simp [ownL]; omega
theorem ownL_all (l : List Given) : ownL l l.length = l.map (·.owner) := by simp [ownL]

theorem F72 (l : List Given) (hlen : l.length ≤ 1000) : Ctr Try.prog 72 [enc l] (enc (l.map (·.owner))) := by
  refine Ctr.mk' Try.func72 ca72 cc72 cr72 (Nat.le_of_ble_eq_true rfl) (fun hwf W0 D0 E1 => ?_)
  simp only [c72, r72, idx, Nat.zero_add, Nat.reduceAdd]
  refine AW.seq (AW.reg cd72_0 fun K hK => ?_)
  simp only [g72_0, bR, Nat.reduceEqDiff, reduceIte, Int.reduceBNe, Int.reduceBEq]
  refine .done (hK _ ?_); clear hK K; simp only [thenQ, blockQ]
  refine AW.seq (AW.reg cd72_1 fun K hK => ?_)
  simp only [g72_1, bR, Nat.reduceEqDiff, reduceIte, Int.reduceBNe, Int.reduceBEq]
  refine .done (hK _ ?_); clear hK K; simp only [thenQ, blockQ]
  refine AW.seq ?_
  refine AW.seq (AW.reg cd72_2 fun K hK => ?_)
  simp only [g72_2, useR, bR, Nat.reduceEqDiff, reduceIte, Int.reduceBNe, Int.reduceBEq]
  refine .done (hK _ ?_); clear hK K; simp only [thenQ, blockQ]
  refine AW.block (AW.loop (fun i : Nat => mkA [(3, .own 3 (ownL l i).length), (6, enc l), (7, .int .i64 l.length), (8, .int .i64 i)] [(3, .row 3 1 ((ownL l i).map enc))]) (fun i => i ≤ l.length) (fun i => l.length - i) 0 (Nat.zero_le _) ?_ (fun i hi => ?_))
  · refine Sub.adoptL 3 3 3 1 1 ?_ ?_ ?_
    · simp only [absR, Nat.reduceEqDiff, reduceIte]
    · simp only [absR]
    · simp only [ownL_zero, List.map_nil, List.length_nil]
      refine Sub.of_lists ?_ ?_ ?_ ?_ <;> simp [subT, subO, onlyT, onlyO, isIn, look_cons, lookO_cons, lookO_nil, AV.only, AV.onlys, AO.only, onlys_map, onlys_append, e_only, e_int, e_bool]
  · refine AW.seq (AW.reg cd72_3 fun K hK => ?_)
    simp only [g72_3, bR, Nat.reduceEqDiff, reduceIte, Int.reduceBNe, Int.reduceBEq]
    refine .done (hK _ ?_); clear hK K; simp only [thenQ, blockQ]
    refine AW.seq ?_
    refine AW.ite ?_
    simp only [condQ, bR, Nat.reduceEqDiff, reduceIte, Int.reduceBNe, Int.reduceBEq]
    refine ⟨fun h => ?_, fun h => ?_⟩
    · have hlt : i < l.length := by simpa using h
      refine AW.skip ?_; simp only [thenQ, blockQ, reduceIte, Nat.reduceEqDiff]
      refine AW.seq (AW.block ?_)
      refine AW.seq (AW.reg cd72_4 fun K hK => ?_)
      simp only [g72_4, bR, Nat.reduceEqDiff, reduceIte, Int.reduceBNe, Int.reduceBEq]
      simp only [isE_nat 7 hlt rfl, typR, okR, bR, Nat.reduceEqDiff, reduceIte, Int.reduceBNe, Int.reduceBEq]
      rw [stR3_ok (e_isVal _) (by rw [e_okS]; rfl) ((e_sh _).trans rfl)]
      simp only [typR, useR, okR, bR, Nat.reduceEqDiff, reduceIte, Int.reduceBNe, Int.reduceBEq]
      refine .done (hK _ ?_); clear hK K; simp only [thenQ, blockQ]
      refine AW.reg cd72_5 fun K hK => ?_
      simp only [g72_5, bR, Nat.reduceEqDiff, reduceIte, Int.reduceBNe, Int.reduceBEq]
      simp only [typR, useR, okR, bR, Nat.reduceEqDiff, reduceIte, Int.reduceBNe, Int.reduceBEq]
      rw [appR3_enc 3 1 8 3 rfl rfl (by simp) (by simp [maxLen, ownL_len hi]; omega) (by simp [ownL_len hi]; omega)]
      simp only [bR, Nat.reduceEqDiff, reduceIte, Int.reduceBNe, Int.reduceBEq]
      refine .done (hK _ ?_); clear hK K; simp only [thenQ, blockQ]
      refine AW.reg cd72_6 fun K hK => ?_
      simp only [g72_6, bR, Nat.reduceEqDiff, reduceIte, Int.reduceBNe, Int.reduceBEq]
      refine .done (hK _ ?_); clear hK K; simp only [thenQ, blockQ]
      refine ⟨i + 1, by omega, by omega, ?_⟩
      rw [wrap_id _ (by omega) (by omega), ownL_succ hlt]
      refine Sub.of_lists ?_ ?_ ?_ ?_ <;> simp [subT, subO, onlyT, onlyO, isIn, look_cons, lookO_cons, lookO_nil, AV.only, AV.onlys, AO.only, onlys_map, onlys_append, e_only, e_int, e_bool]
    · have hge : i = l.length := by simp at h; omega
      subst hge
      refine AW.exit ?_; simp only [thenQ, blockQ, reduceIte, Nat.reduceEqDiff]
      refine AW.seq (AW.reg cd72_7 fun K hK => ?_)
      simp only [g72_7, bR, Nat.reduceEqDiff, reduceIte, Int.reduceBNe, Int.reduceBEq]
      refine .done (hK _ ?_); clear hK K; simp only [thenQ, blockQ]
      refine AW.ret ?_
      simp only [blockQ, thenQ, ownL_all, bR, Nat.reduceEqDiff, reduceIte, Int.reduceBNe, Int.reduceBEq]

theorem possG_owners (m : Marks) (r : Arr 6 Int) : (possG m r).map (·.owner) = ownersIn m r m.given := by
  simp only [possG, keep, ownersIn]
  congr 1
  refine List.filter_congr fun g _ => ?_
  by_cases h : m.fls < costOf m.wear g.mark r
  · have : ¬ costOf m.wear g.mark r ≤ m.fls := by omega
    simp [h, this]
  · have : costOf m.wear g.mark r ≤ m.fls := by omega
    simp [h, this]

theorem F26 (m : Marks) (r : Arr 6 Int) : Ctr Try.prog 26 [enc m, enc r] (.tuple [enc (ownersOf m r).1, enc (ownersOf m r).2]) := by
  refine Ctr.mk' Try.func26 ca26 cc26 cr26 (Nat.le_of_ble_eq_true rfl) (fun hwf W0 D0 E1 => ?_)
  simp only [c26, r26, idx, Nat.zero_add, Nat.reduceAdd]
  refine AW.seq (AW.reg cd26_0 fun K hK => ?_)
  simp only [g26_0, bR, Nat.reduceEqDiff, reduceIte, Int.reduceBNe, Int.reduceBEq]
  simp only [e_isVal, bR, Nat.reduceEqDiff, reduceIte, Int.reduceBNe, Int.reduceBEq]
  refine .done (hK _ ?_); clear hK K; simp only [thenQ, blockQ]
  refine AW.seq ?_
  refine AW.seq (AW.reg cd26_1 fun K hK => ?_)
  simp only [g26_1, bR, Nat.reduceEqDiff, reduceIte, Int.reduceBNe, Int.reduceBEq]
  simp only [typR, useR, okR, e_fin, bR, Nat.reduceEqDiff, reduceIte, Int.reduceBNe, Int.reduceBEq]
  refine .flat _ (F47 m) rfl ?_
  simp only [typR, useR, okR, e_fin, bR, Nat.reduceEqDiff, reduceIte, Int.reduceBNe, Int.reduceBEq]
  refine .flat _ (F45 r) rfl ?_
  simp only [typR, useR, okR, e_fin, bs2, bR, Nat.reduceEqDiff, reduceIte, Int.reduceBNe, Int.reduceBEq]
  refine .flat _ (F64 _) rfl ?_
  rw [first2 _ _ 13 12 (by decide) (by decide)]
  simp only [bR, Nat.reduceEqDiff, reduceIte, Int.reduceBNe, Int.reduceBEq]
  refine .done (hK _ ?_); clear hK K; simp only [thenQ, blockQ]
  generalize hw : okM m = bw
  generalize hr : okReading r = br
  cases bw
  · refine AW.seq (AW.reg cd26_2 fun K hK => ?_)
    simp only [g26_2, bR, Nat.reduceEqDiff, reduceIte, Int.reduceBNe, Int.reduceBEq]
    refine .done (hK _ ?_); clear hK K; simp only [thenQ, blockQ]
    refine AW.ite ?_
    simp only [condQ, bR, Nat.reduceEqDiff, reduceIte, Int.reduceBNe, Int.reduceBEq]
    refine ⟨fun h => ?_, fun h => ?_⟩
    · refine AW.seq (AW.reg cd26_3 fun K hK => ?_)
      simp only [g26_3, bR, Nat.reduceEqDiff, reduceIte, Int.reduceBNe, Int.reduceBEq]
      refine .done (hK _ ?_); clear hK K; simp only [thenQ, blockQ]
      refine AW.ret ?_
      simp only [blockQ, thenQ, bR, Nat.reduceEqDiff, reduceIte, Int.reduceBNe, Int.reduceBEq]
      simp [ownersOf, hw, nilInt]
    · cases h
  cases br
  · refine AW.seq (AW.reg cd26_2 fun K hK => ?_)
    simp only [g26_2, bR, Nat.reduceEqDiff, reduceIte, Int.reduceBNe, Int.reduceBEq]
    refine .done (hK _ ?_); clear hK K; simp only [thenQ, blockQ]
    refine AW.ite ?_
    simp only [condQ, bR, Nat.reduceEqDiff, reduceIte, Int.reduceBNe, Int.reduceBEq]
    refine ⟨fun h => ?_, fun h => ?_⟩
    · refine AW.seq (AW.reg cd26_3 fun K hK => ?_)
      simp only [g26_3, bR, Nat.reduceEqDiff, reduceIte, Int.reduceBNe, Int.reduceBEq]
      refine .done (hK _ ?_); clear hK K; simp only [thenQ, blockQ]
      refine AW.ret ?_
      simp only [blockQ, thenQ, bR, Nat.reduceEqDiff, reduceIte, Int.reduceBNe, Int.reduceBEq]
      simp [ownersOf, hw, hr, nilInt]
    · cases h
  refine AW.seq (AW.reg cd26_2 fun K hK => ?_)
  simp only [g26_2, bR, Nat.reduceEqDiff, reduceIte, Int.reduceBNe, Int.reduceBEq]
  refine .done (hK _ ?_); clear hK K; simp only [thenQ, blockQ]
  refine AW.ite ?_
  simp only [condQ, bR, Nat.reduceEqDiff, reduceIte, Int.reduceBNe, Int.reduceBEq]
  refine ⟨fun h => ?_, fun h => ?_⟩
  · cases h
  refine AW.skip ?_; simp only [thenQ, blockQ, reduceIte, Nat.reduceEqDiff]
  have hlen : m.given.length ≤ 1000 := by have := okM_len hw; omega
  have hpl : (possG m r).length ≤ 1000 := Nat.le_trans (List.length_filter_le _ _) hlen
  refine AW.seq (AW.reg cd26_4 fun K hK => ?_)
  simp only [g26_4, bR, Nat.reduceEqDiff, reduceIte, Int.reduceBNe, Int.reduceBEq]
  simp only [typR, useR, okR, e_fin, bR, Nat.reduceEqDiff, reduceIte, Int.reduceBNe, Int.reduceBEq]
  refine .obj false [(7, 18)] [] [enc m, enc r] (possPost 7 m r) rfl (F65 m r (okM_mark hw) hlen) Gvn.nil ⟨.inl ⟨(e_ren _ _).symm, e_only _ _, e_isVal _⟩, .inl ⟨(e_ren _ _).symm, e_only _ _, e_isVal _⟩, trivial⟩ ?_ ?_
  · rintro x os' (⟨_, rfl, rfl⟩ | ⟨k, rfl, rfl⟩)
    · exact Bck.nil (fun _ => rfl) (fun h => by cases h)
    · exact Bck.new1 (fun p => map_only p _) (fun h => by cases h) rfl (fun h => by cases h) rfl (by decide)
  · rintro x os' (⟨hp, rfl, rfl⟩ | ⟨k, rfl, rfl⟩)
    · simp only [e_ren, renR, List.nil_append, e_fin, bR, Nat.reduceEqDiff, reduceIte, Int.reduceBNe, Int.reduceBEq]
      refine .lead _ (F72 [] (by simp)) ?_
      simp only [List.map_nil, bR, Nat.reduceEqDiff, reduceIte, Int.reduceBNe, Int.reduceBEq]
      refine .done (hK _ ?_); clear hK K; simp only [thenQ, blockQ]
      refine AW.ret ?_
      simp only [blockQ, thenQ, bR, Nat.reduceEqDiff, reduceIte, Int.reduceBNe, Int.reduceBEq]
      simp only [e_fin, bR, Nat.reduceEqDiff, reduceIte, Int.reduceBNe, Int.reduceBEq]
      simp [ownersOf, hw, hr, ← possG_owners, hp]
    · simp only [rowG, renR, rens_map_enc, List.cons_append, List.nil_append, bR, Nat.reduceEqDiff, reduceIte, Int.reduceBNe, Int.reduceBEq]
      refine .free [18] _ rfl (F72 (possG m r) hpl) ?_ ?_ ?_
      · simp only [keepO, List.filter_cons, List.filter_nil, List.contains_cons, List.contains_nil, Nat.reduceBEq, Bool.or_false, Bool.or_true, Bool.true_or, BEq.rfl, finV_take (α := Given) (sz := 7) rfl, take_row, bR, Nat.reduceEqDiff, reduceIte, Int.reduceBNe, Int.reduceBEq]
      · simp [dropO, onlyO, AO.only, e_only]
      · simp only [fgt, dropO, List.filter_cons, List.filter_nil, List.contains_cons, List.contains_nil, Nat.reduceBEq, Bool.or_false, Bool.or_true, Bool.true_or, BEq.rfl, AV.only, e_only, bR, Nat.reduceEqDiff, reduceIte, Int.reduceBNe, Int.reduceBEq]
        refine .done (hK _ ?_); clear hK K; simp only [thenQ, blockQ]
        refine AW.ret ?_
        simp only [blockQ, thenQ, bR, Nat.reduceEqDiff, reduceIte, Int.reduceBNe, Int.reduceBEq]
        simp only [e_fin, bR, Nat.reduceEqDiff, reduceIte, Int.reduceBNe, Int.reduceBEq]
        simp [ownersOf, hw, hr, possG_owners]

theorem F29 (m : Marks) (r : Arr 6 Int) : Ctr Try.prog 29 [enc m, enc r] (.tuple [enc (ownerOf m r).1, enc (ownerOf m r).2]) := by
  refine Ctr.mk' Try.func29 ca29 cc29 cr29 (Nat.le_of_ble_eq_true rfl) (fun hwf W0 D0 E1 => ?_)
  simp only [c29, r29, idx, Nat.zero_add, Nat.reduceAdd]
  refine AW.seq (AW.reg cd29_0 fun K hK => ?_)
  simp only [g29_0, bR, Nat.reduceEqDiff, reduceIte, Int.reduceBNe, Int.reduceBEq]
  simp only [e_isVal, bR, Nat.reduceEqDiff, reduceIte, Int.reduceBNe, Int.reduceBEq]
  refine .done (hK _ ?_); clear hK K; simp only [thenQ, blockQ]
  refine AW.seq (AW.reg cd29_1 fun K hK => ?_)
  simp only [g29_1, bR, Nat.reduceEqDiff, reduceIte, Int.reduceBNe, Int.reduceBEq]
  simp only [typR, useR, okR, e_fin, bR, Nat.reduceEqDiff, reduceIte, Int.reduceBNe, Int.reduceBEq]
  refine .lead _ (F26 m r) ?_
  simp only [List.getElem?_cons_zero, List.getElem?_cons_succ, bR, Nat.reduceEqDiff, reduceIte, Int.reduceBNe, Int.reduceBEq]
  refine .done (hK _ ?_); clear hK K; simp only [thenQ, blockQ]
  generalize hl : (ownersOf m r).1 = l
  generalize he : (ownersOf m r).2 = e
  refine AW.seq (AW.block ?_)
  refine AW.seq (AW.reg cd29_2 fun K hK => ?_)
  simp only [g29_2, bR, Nat.reduceEqDiff, reduceIte, Int.reduceBNe, Int.reduceBEq]
  refine .done (hK _ ?_); clear hK K; simp only [thenQ, blockQ]
  refine AW.ite ?_
  simp only [condQ, bR, Nat.reduceEqDiff, reduceIte, Int.reduceBNe, Int.reduceBEq]
  refine ⟨fun h => ?_, fun h => ?_⟩
  · have h' : e ≠ 0 := by simpa using h
    refine AW.seq (AW.reg cd29_3 fun K hK => ?_)
    simp only [g29_3, bR, Nat.reduceEqDiff, reduceIte, Int.reduceBNe, Int.reduceBEq]
    refine .done (hK _ ?_); clear hK K; simp only [thenQ, blockQ]
    refine AW.ret ?_
    simp only [blockQ, thenQ, bR, Nat.reduceEqDiff, reduceIte, Int.reduceBNe, Int.reduceBEq]
    simp [ownerOf, he, h']
  have h' : e = 0 := by simpa using h
  subst h'
  refine AW.seq (AW.reg cd29_4 fun K hK => ?_)
  simp only [g29_4, bR, Nat.reduceEqDiff, reduceIte, Int.reduceBNe, Int.reduceBEq]
  simp only [useR, bR, Nat.reduceEqDiff, reduceIte, Int.reduceBNe, Int.reduceBEq]
  refine .done (hK _ ?_); clear hK K; simp only [thenQ, blockQ]
  refine AW.ite ?_
  simp only [condQ, bR, Nat.reduceEqDiff, reduceIte, Int.reduceBNe, Int.reduceBEq]
  refine ⟨fun h => ?_, fun h => ?_⟩
  · have hn : l = [] := by simpa using h
    subst hn
    refine AW.seq (AW.reg cd29_5 fun K hK => ?_)
    simp only [g29_5, bR, Nat.reduceEqDiff, reduceIte, Int.reduceBNe, Int.reduceBEq]
    refine .done (hK _ ?_); clear hK K; simp only [thenQ, blockQ]
    refine AW.ret ?_
    simp only [blockQ, thenQ, bR, Nat.reduceEqDiff, reduceIte, Int.reduceBNe, Int.reduceBEq]
    simp [ownerOf, he, hl]
  have hn : l ≠ [] := by simpa using h
  have hpos : 0 < l.length := List.length_pos_iff.2 hn
  refine AW.seq (AW.reg cd29_6 fun K hK => ?_)
  simp only [g29_6, bR, Nat.reduceEqDiff, reduceIte, Int.reduceBNe, Int.reduceBEq]
  simp only [useR, bR, Nat.reduceEqDiff, reduceIte, Int.reduceBNe, Int.reduceBEq]
  refine .done (hK _ ?_); clear hK K; simp only [thenQ, blockQ]
  refine AW.ite ?_
  simp only [condQ, bR, Nat.reduceEqDiff, reduceIte, Int.reduceBNe, Int.reduceBEq]
  refine ⟨fun h => ?_, fun h => ?_⟩
  · have h2 : 1 < l.length := by simp at h; omega
    refine AW.seq (AW.reg cd29_7 fun K hK => ?_)
    simp only [g29_7, bR, Nat.reduceEqDiff, reduceIte, Int.reduceBNe, Int.reduceBEq]
    refine .done (hK _ ?_); clear hK K; simp only [thenQ, blockQ]
    refine AW.ret ?_
    simp only [blockQ, thenQ, bR, Nat.reduceEqDiff, reduceIte, Int.reduceBNe, Int.reduceBEq]
    match l, h2 with
    | a :: b :: r', _ => simp [ownerOf, he, hl]
  · have h2 : l.length = 1 := by simp at h; omega
    refine AW.skip ?_; simp only [thenQ, blockQ, reduceIte, Nat.reduceEqDiff]
    refine AW.seq (AW.reg cd29_8 fun K hK => ?_)
    simp only [g29_8, bR, Nat.reduceEqDiff, reduceIte, Int.reduceBNe, Int.reduceBEq]
    have hz : isE (mkA [] []) 1 (0 : Int) (enc l) = some (.ref (enc (l[0]'hpos))) := isE_nat 1 (k := 0) hpos rfl
    have hz' : ∀ A, isE A 1 (0 : Int) (enc l) = some (.ref (enc (l[0]'hpos))) := fun A => isE_nat 1 (k := 0) hpos rfl
    simp only [hz', okR, bR, Nat.reduceEqDiff, reduceIte, Int.reduceBNe, Int.reduceBEq]
    refine .done (hK _ ?_); clear hK K; simp only [thenQ, blockQ]
    refine AW.ret ?_
    simp only [blockQ, thenQ, bR, Nat.reduceEqDiff, reduceIte, Int.reduceBNe, Int.reduceBEq]
    match l, h2 with
    | [a], _ => simp [ownerOf, he, hl]

end Go.Proofs.Ytkjkbpgdpnapfaa

/-
  THE ABSTRACT LAYER, 21: a range over a function. The frame's variables in memory go with the loop's record to the iterator, which hands them on to each round. Over any program.
-/
namespace Go.Abs
open Go Go.RowKit
open Enc (enc)

mutual
theorem only_mono {p q : Nat → Bool} (h : ∀ n, p n = true → q n = true) : ∀ x : AV, x.only p = true → x.only q = true
  | .agg fs, hx | .tuple fs, hx => by simp only [AV.only] at *; exact onlys_mono h fs hx
  | .slice _ es, hx => by simp only [AV.only] at *; exact onlys_mono h es hx
  | .ref x, hx => by simp only [AV.only] at *; exact only_mono h x hx
  | .func _ caps, hx => by simp only [AV.only] at *; exact onlys_mono h caps hx
  | .iface _ v, hx => by simp only [AV.only] at *; exact only_mono h v hx
  | .ptr _ _, hx | .own _ _, hx | .view _ _ _ _ _, hx => by simp only [AV.only] at *; exact h _ hx
  | .bool _, _ | .int _ _, _ | .str _, _ | .nilp, _ | .nilf, _ | .nili, _ | .raw _, _ | .nils _, _ | .c0 _, _ | .undef, _ | .top, _ => by simp [AV.only]
theorem onlys_mono {p q : Nat → Bool} (h : ∀ n, p n = true → q n = true) : ∀ xs : List AV, AV.onlys p xs = true → AV.onlys q xs = true
  | [], _ => rfl
  | x :: xs, hx => by
    simp only [AV.onlys, Bool.and_eq_true] at *
    exact ⟨only_mono h x hx.1, onlys_mono h xs hx.2⟩
end
theorem AO.only_mono {p q : Nat → Bool} (h : ∀ n, p n = true → q n = true) (x : AO) (hx : x.only p = true) : x.only q = true := by
  cases x with
  | box y => simp only [AO.only] at *; exact Abs.only_mono h y hx
  | row T sz es => simp only [AO.only] at *; exact onlys_mono h es hx
  | opq o => rfl

theorem isVal_closed {x : AV} (h : x.closed = true) : x.isVal = true := by
  cases x <;> first | rfl | simp [AV.closed] at h
theorem argsOk_closed {bx : Bool} {A0 : AState} {ρ : List (Nat × Nat)} {os : List (Nat × AO)} : ∀ xs : List AV, AV.closeds xs = true → argsOk bx A0 ρ os xs xs
  | [], _ => trivial
  | x :: xs, h => by
    simp only [AV.closeds, Bool.and_eq_true] at h
    exact ⟨.inl ⟨(ren_closed _ x h.1).symm, only_closed _ x h.1, isVal_closed h.1⟩, argsOk_closed xs h.2⟩

/-- The objects' names and kinds are as at the beginning; they speak of themselves alone. -/
structure GoodO (os os' : List (Nat × AO)) : Prop where
  same : ∀ m, isIn os' m = isIn os m
  ok : ∀ m x, lookO os' m = some x → x.only (isIn os') = true ∧ x.fix = true
  great : ∀ m, isIn os m = true → 1000000 ≤ m

/-- **An iterator**: it yields these 'N' lists of values, one after the other, as long as it is told to go on. -/
def Iter (P : Program) (g : FuncId) (caps : List AV) (N : Nat) (item : Nat → List AV) : Prop :=
  ∀ (Y : Value → List AV → List (Nat × AO) → Post → Prop) (v : Value) (I : Nat → List (Nat × AO) → Prop) (Ix : List (Nat × AO) → Prop) (os : List (Nat × AO)), v.oneCell' = true →
    (∀ k os' post, k < N → I k os' → (∀ r os2, (r = .bool true ∧ I (k + 1) os2) ∨ (r = .bool false ∧ Ix os2) → post r os2) → Y v (item k) os' post) →
    (∀ k os', I k os' → GoodO os os') → (∀ os', Ix os' → GoodO os os') → I 0 os → CtrY P g Y (.raw v :: caps) os (fun r os' => r = .tuple [] ∧ (I N os' ∨ Ix os'))

/-- The loop's record goes with the objects. -/
def recd (o : Obj) (os : List (Nat × AO)) : List (Nat × AO) := (1999999, .opq o) :: os
theorem isIn_recd (o : Obj) (os : List (Nat × AO)) (m : Nat) : isIn (recd o os) m = (decide (m = 1999999) || isIn os m) := by
  simp only [recd, isIn, lookO]
  by_cases h : m = 1999999 <;> simp [h]
theorem lookO_recd (o : Obj) (os : List (Nat × AO)) (m : Nat) : lookO (recd o os) m = if m = 1999999 then some (.opq o) else lookO os m := rfl

theorem GoodO.recd {os os' : List (Nat × AO)} (h : GoodO os os') (o o' : Obj) : GoodO (recd o os) (recd o' os') := by
  refine ⟨fun m => by rw [isIn_recd, isIn_recd, h.same], fun m x hx => ?_, fun m hm => ?_⟩
  · rw [lookO_recd] at hx
    split at hx
    · cases hx; exact ⟨rfl, rfl⟩
    · obtain ⟨h1, h2⟩ := h.ok m x hx
      exact ⟨x.only_mono (fun n hn => by rw [isIn_recd, hn]; simp) h1, h2⟩
  · rw [isIn_recd] at hm
    simp only [Bool.or_eq_true, decide_eq_true_eq] at hm
    rcases hm with rfl | hm
    · decide
    · exact h.great m hm

/-- Yield's values are put into the slots. -/
def putsT : List Nat → List AV → List (Nat × AV) → List (Nat × AV)
  | p :: ps, v :: vs, ts => putsT ps vs ((p, v) :: ts)
  | _, _, ts => ts

/-- These slots, told by other names. -/
def slotsOk (ρ : List (Nat × Nat)) (p : Nat → Bool) (ts : List (Nat × AV)) : List (Nat × AV) → Prop
  | [] => True
  | (k, v) :: r => look ts k = v.ren (rnm ρ) ∧ v.only p = true ∧ slotsOk ρ p ts r
theorem slotsOk_get {ρ : List (Nat × Nat)} {p : Nat → Bool} {ts : List (Nat × AV)} : ∀ {tsR : List (Nat × AV)}, slotsOk ρ p ts tsR → ∀ k, look tsR k = .top ∨ (look ts k = (look tsR k).ren (rnm ρ) ∧ (look tsR k).only p = true)
  | [], _, k => .inl rfl
  | (j, v) :: r, h, k => by
    simp only [slotsOk] at h
    simp only [look]
    split
    · rename_i hk; subst hk; exact .inr ⟨h.1, h.2.1⟩
    · exact slotsOk_get h.2.2 k

section
variable {c : Ctx} {a : Act} {w : World} {D : Dom} {E : Env}

/-- The record is written. -/
theorem SimW.setOpq {A : AState} (h : SimW c A a w D E) {n b : Nat} {o o' : Obj} (hn : A.o n = some (.opq o)) (hE : E n = some (.op b)) (ho : isRec o' = true) : SimW c (A.setO n (.opq o')) a (w.putObj b o') D E := by
  have hob := h.obj n
  rw [hn] at hob
  obtain ⟨b', k1, k2, k3, k4, k5⟩ := hob
  rw [hE] at k1
  cases k1
  have hnc : o.isCells = false := by cases o <;> first | rfl | cases k4
  have hlt : b < w.heap.size := heap_lt k3
  have hl : Later w D E (w.putObj b o') D E := ⟨fun _ _ h => h, fun b1 o1 v _ hv => cell_putObj k3 hnc hv, fun _ _ _ h => h, fun _ blk l h => ⟨blk, l, h, Nat.le_refl _, fun _ => rfl⟩⟩
  refine ⟨h.sz, h.defs.mono fun B _ hB => (World.putObj_heap_other (fun e => by rw [e, k3] at hB; cases hB; cases k4)).trans hB, fun t => rv.later hl (h.tm t), h.unch.trans ⟨rfl, rfl, rfl, by simp, fun k hk => World.putObj_heap_other (fun e => hk (e ▸ k2))⟩, h.dom,
    fun b1 o1 hd => by have := h.live b1 o1 hd; simpa using this, fun m => ?_, h.sep, h.hist, h.nam, h.up, h.yok⟩
  simp only [AState.setO]
  by_cases hm : m = n
  · subst hm
    simp only [if_true, objOk]
    exact ⟨b, hE, k2, World.putObj_heap_same hlt, ho, k5⟩
  · simp only [if_neg hm]
    exact (h.obj m).later hl rfl fun e b1 he hb => ⟨World.putObj_heap_other (fun e1 => hm (h.sep m n e _ b1 he hE hb (by rw [e1]; rfl))), fun _ ho => ho⟩

/-- The record is spoken of no more. -/
theorem SimW.dropOpq {A : AState} (h : SimW c A a w D E) {n b : Nat} (hE : E n = some (.op b)) : SimW c ⟨A.t, fun m => if m = n then none else A.o m⟩ a w D (fun m => if m = n then none else E m) := by
  have hne : ∀ {m : Nat} {e : Ent}, E m = some e → (∀ b, e ≠ .op b) → m ≠ n := fun he h2 e' => by
    subst e'; rw [hE] at he; cases he; exact h2 _ rfl
  have hl : Later w D E w D (fun m => if m = n then none else E m) := by
    refine ⟨fun _ _ h => h, fun _ _ _ _ h => h, fun m b sh he => ?_, fun m blk l he => ⟨blk, l, ?_, Nat.le_refl _, fun _ => rfl⟩⟩
    · simp only [if_neg (hne he (fun b => by simp))]; exact he
    · simp only [if_neg (hne he (fun b => by simp))]; exact he
  refine ⟨h.sz, h.defs, fun t => rv.later hl (h.tm t), h.unch, h.dom, h.live, fun m => ?_, fun m m' e e' b h1 h2 h3 h4 => ?_, fun m e hm hfx => ?_, h.nam, h.up, h.yok⟩
  · by_cases hm : m = n
    · simp only [hm, if_true, objOk]
    · simp only [if_neg hm]
      exact (h.obj m).later hl (by simp only [if_neg hm]) fun _ _ _ _ => ⟨rfl, fun _ ho => ho⟩
  · split at h1
    · cases h1
    · split at h2
      · cases h2
      · exact h.sep m m' e e' b h1 h2 h3 h4
  · by_cases hmn : m = n
    · left; simp only [hmn, if_true]
    · simp only [if_neg hmn]; exact h.hist m e hm hfx

/-- The statement is entered: its record is laid. -/
theorem SimW.enter {ts : List (Nat × AV)} {os0 : List (Nat × AO)} (h : SimW c (mkA ts os0) a w D E) (hfree : lookO os0 999999 = none) (hE0 : c.E0 999999 = none) {o : Obj} (ho : isRec o = true) :
    ∃ E1, SimW c (mkA ts ((999999, .opq o) :: os0)) { a with defers := { target := .collected w.heap.size, args := #[] } :: a.defers } ((w.alloc (.deferred (some []))).alloc o) D E1 ∧ E1 999999 = some (.op (w.heap.size + 1)) ∧ ∀ xs vs, rvs w D E xs vs → rvs ((w.alloc (.deferred (some []))).alloc o) D E1 xs vs := by
  have hb : Below w.heap.size w ((w.alloc (.deferred (some []))).alloc o) := ((Below.refl _ w).alloc (Nat.le_refl _) _).alloc (by simp) _
  have h1 := h.grow (D' := D) hb (fun _ _ h => h) (fun _ _ h _ => h) (fun b o' hd => by have := h.live b o' hd; simp; omega)
  obtain ⟨W, hW⟩ : ∃ W, W = (w.alloc (.deferred (some []))).alloc o := ⟨_, rfl⟩
  have hL : W.heap[w.heap.size + 1]? = some o := by
    rw [hW]; have := World.alloc_heap_new (w.alloc (.deferred (some []))) o; rwa [World.size_alloc] at this
  have hK : W.heap[w.heap.size]? = some (.deferred (some [])) := by
    rw [hW]; exact (Below.heap_alloc _ _ _ (by simp)).trans (World.alloc_heap_new w _)
  rw [← hW] at h1 hb ⊢
  have hEn : E 999999 = none := by have := h.obj 999999; simp only [mkA, hfree] at this; exact this
  have hl : Later W D E W D (fun m => if m = 999999 then some (.op (w.heap.size + 1)) else E m) := by
    refine ⟨fun _ _ h => h, fun _ _ _ _ h => h, fun m b sh he => ?_, fun m blk l he => ⟨blk, l, ?_, Nat.le_refl _, fun _ => rfl⟩⟩
    · have : m ≠ 999999 := fun e => by rw [e, hEn] at he; cases he
      simp only [if_neg this]; exact he
    · have : m ≠ 999999 := fun e => by rw [e, hEn] at he; cases he
      simp only [if_neg this]; exact he
  have hsz : c.w0.heap.size ≤ w.heap.size := h.unch.size
  have nb : ∀ {m : Nat} {e : Ent} {b : Nat}, E m = some e → e.blk = some b → b < w.heap.size := fun he hb' => h.blk_lt he hb'
  refine ⟨fun m => if m = 999999 then some (.op (w.heap.size + 1)) else E m, ⟨h1.sz, ?_, fun t => rv.later hl (h1.tm t), h1.unch, h1.dom, h1.live, fun m => ?_, fun m m' e e' b g1 g2 g3 g4 => ?_, fun m e hm hfx => ?_, h1.nam, h1.up, h1.yok⟩, by simp, fun xs vs hx => rvs.later hl xs vs (rvs.later (Later.grow hb fun _ _ h => h) xs vs hx)⟩
  · obtain ⟨Bs, k1, k2, k3⟩ := h1.defs
    refine ⟨w.heap.size :: Bs, by simp only [List.map_cons]; rw [← k1], List.nodup_cons.2 ⟨fun hin => ?_, k2⟩, fun B hB => ?_⟩
    · obtain ⟨Bs', j1, _, j3⟩ := h.defs
      have e1 : Bs = Bs' := by
        have : Bs.map (fun B => ({ target := .collected B, args := #[] } : Deferred)) = Bs'.map (fun B => { target := .collected B, args := #[] }) := by rw [← k1, ← j1]
        exact (List.map_inj_right (fun x y hxy => by simpa using hxy)).1 this
      rw [e1] at hin
      have := heap_lt (j3 _ hin).2
      omega
    · rcases List.mem_cons.1 hB with rfl | hB
      · exact ⟨hsz, hK⟩
      · exact k3 B hB
  · simp only [mkA, lookO]
    by_cases hm : m = 999999
    · subst hm
      simp only [if_true, objOk]
      exact ⟨_, rfl, .inl (by omega), hL, ho, fun o' hd => by have := h.live _ o' hd; omega⟩
    · simp only [if_neg hm]
      exact (h1.obj m).later hl (by simp only [if_neg hm]) fun _ _ _ _ => ⟨rfl, fun _ ho => ho⟩
  · by_cases hm : m = 999999 <;> by_cases hm' : m' = 999999
    · rw [hm, hm']
    · simp only [if_pos hm, Option.some.injEq] at g1
      simp only [if_neg hm'] at g2
      subst g1
      simp only [Ent.blk, Option.some.injEq] at g3
      have := nb g2 g4; omega
    · simp only [if_neg hm] at g1
      simp only [if_pos hm', Option.some.injEq] at g2
      subst g2
      simp only [Ent.blk, Option.some.injEq] at g4
      have := nb g1 g3; omega
    · simp only [if_neg hm] at g1; simp only [if_neg hm'] at g2; exact h.sep m m' e e' b g1 g2 g3 g4
  · have hmn : m ≠ 999999 := fun e => by rw [e, hE0] at hm; cases hm
    simp only [if_neg hmn]
    exact h.hist m e hm hfx

theorem objOk_some {M : Nat → Prop} {n : Nat} {x : AO} (h : objOk M w D E n (some x)) : E n ≠ none := by
  cases x with
  | box x => obtain ⟨b, cs, T, h1, _⟩ := h; rw [h1]; simp
  | row T sz es => obtain ⟨blk, h1, _⟩ := h; rw [h1]; simp
  | opq o => obtain ⟨b, h1, _⟩ := h; rw [h1]; simp

theorem objOk.mine {M M' : Nat → Prop} {n : Nat} {x : Option AO} (h : objOk M w D E n x) (hM : ∀ e b, E n = some e → e.blk = some b → M' b) : objOk M' w D E n x := by
  unfold objOk at *
  split
  · exact h
  · obtain ⟨b, cs, T, h1, _, h3⟩ := h
    exact ⟨b, cs, T, h1, hM _ b h1 rfl, h3⟩
  · obtain ⟨blk, h1, h2, h3⟩ := h
    refine ⟨blk, h1, h2, ?_⟩
    split
    · exact h3
    · obtain ⟨cs, pre, rest, _, h4⟩ := h3
      exact ⟨cs, pre, rest, hM _ _ h1 rfl, h4⟩
  · obtain ⟨b, h1, _, h3⟩ := h
    exact ⟨b, h1, hM _ b h1 rfl, h3⟩

theorem SimW.puts {os : List (Nat × AO)} : ∀ (ps : List Nat) (vs : List Value) (xs : List AV) (ts : List (Nat × AV)) (a : Act), SimW c (mkA ts os) a w D E → (∀ p ∈ ps, p < c.n) → rvs w D E xs vs → ps.length = vs.length →
    SimW c (mkA (putsT ps xs ts) os) { a with tmps := (ps.zip vs).foldl (fun t q => t.setIfInBounds q.1 q.2) a.tmps } w D E
  | [], [], xs, ts, a, h, _, hv, _ => by
    cases xs with
    | nil => exact h
    | cons x xs => simp [rvs] at hv
  | [], _ :: _, _, _, _, _, _, _, hl => by simp at hl
  | _ :: _, [], _, _, _, _, _, _, hl => by simp at hl
  | p :: ps, v :: vs, xs, ts, a, h, hp, hv, hl => by
    cases xs with
    | nil => simp [rvs] at hv
    | cons x xs =>
      simp only [rvs] at hv
      obtain ⟨v', rest, cs, e, h1, h2, h3⟩ := hv
      simp only [List.cons.injEq] at e
      obtain ⟨rfl, rfl⟩ := e
      have h4 := h.put (hp p (by simp)) (mk_val h1 h2)
      rw [mkA_put] at h4
      have := SimW.puts ps vs xs ((p, x) :: ts) (a.put (some p) v) h4 (fun q hq => hp q (by simp [hq])) h3 (by simpa using hl)
      exact this

end
end Go.Abs

