/-
  FUNCTIONS OF THE PACKAGE mark BY CONTRACT: owners, Owners, Owner.
-/
import Derived.Test.YtkjkbpgdpnapfaaMhd
set_option linter.unusedSimpArgs false
set_option linter.unusedVariables false
namespace Go.Proofs.Ytkjkbpgdpnapfaa
open Go Go.Abs
open Go.Abs.Enc (enc)
def ownL (l : List Given) (i : Nat) : List Int := (l.take i).map (·.owner)
theorem ownL_zero (l : List Given) : ownL l 0 = [] := by simp [ownL]
theorem ownL_succ {l : List Given} {i : Nat} (h : i < l.length) : ownL l (i + 1) = ownL l i ++ [l[i].owner] := by
  simp only [ownL]; rw [List.take_succ_eq_append_getElem h, List.map_append]; rfl
theorem ownL_len {l : List Given} {i : Nat} (h : i ≤ l.length) : (ownL l i).length = i := by simp [ownL]; omega
theorem ownL_all (l : List Given) : ownL l l.length = l.map (·.owner) := by simp [ownL]
theorem F72 (l : List Given) (hlen : l.length ≤ 1000) : Ctr Try.prog 72 [enc l] (enc (l.map (·.owner))) := by
  refine Ctr.mk' Try.func72 ca72 cc72 cr72 (Nat.le_of_ble_eq_true rfl) (fun hwf W0 D0 E1 => ?_)
  simp only [c72, r72, idx, Nat.zero_add, Nat.reduceAdd]
  refine AW.seq (AW.reg cd72_0 fun K hK => ?_)
  simp only [g72_0, bR, Nat.reduceEqDiff, reduceIte, Int.reduceBNe, Int.reduceBEq]
  refine .done (hK _ ?_); clear hK K; simp only [thenQ, blockQ]
  refine AW.seq (AW.reg cd72_1 fun K hK => ?_)
  simp only [g72_1, bR, Nat.reduceEqDiff, reduceIte, Int.reduceBNe, Int.reduceBEq]
  refine .done (hK _ ?_); clear hK K; simp only [thenQ, blockQ]
  refine AW.seq ?_
  refine AW.seq (AW.reg cd72_2 fun K hK => ?_)
  simp only [g72_2, useR, bR, Nat.reduceEqDiff, reduceIte, Int.reduceBNe, Int.reduceBEq]
  refine .done (hK _ ?_); clear hK K; simp only [thenQ, blockQ]
  refine AW.block (AW.loop (fun i : Nat => mkA [(3, .own 3 (ownL l i).length), (6, enc l), (7, .int .i64 l.length), (8, .int .i64 i)] [(3, .row 3 1 ((ownL l i).map enc))]) (fun i => i ≤ l.length) (fun i => l.length - i) 0 (Nat.zero_le _) ?_ (fun i hi => ?_))
  · refine Sub.adoptL 3 3 3 1 1 ?_ ?_ ?_
    · simp only [absR, Nat.reduceEqDiff, reduceIte]
    · simp only [absR]
    · simp only [ownL_zero, List.map_nil, List.length_nil]
      refine Sub.of_lists ?_ ?_ ?_ ?_ <;> simp [subT, subO, onlyT, onlyO, isIn, look_cons, lookO_cons, lookO_nil, AV.only, AV.onlys, AO.only, onlys_map, onlys_append, e_only, e_int, e_bool]
  · refine AW.seq (AW.reg cd72_3 fun K hK => ?_)
    simp only [g72_3, bR, Nat.reduceEqDiff, reduceIte, Int.reduceBNe, Int.reduceBEq]
    refine .done (hK _ ?_); clear hK K; simp only [thenQ, blockQ]
    refine AW.seq ?_
    refine AW.ite ?_
    simp only [condQ, bR, Nat.reduceEqDiff, reduceIte, Int.reduceBNe, Int.reduceBEq]
    refine ⟨fun h => ?_, fun h => ?_⟩
    · have hlt : i < l.length := by simpa using h
      refine AW.skip ?_; simp only [thenQ, blockQ, reduceIte, Nat.reduceEqDiff]
      refine AW.seq (AW.block ?_)
      refine AW.seq (AW.reg cd72_4 fun K hK => ?_)
      simp only [g72_4, bR, Nat.reduceEqDiff, reduceIte, Int.reduceBNe, Int.reduceBEq]
      simp only [isE_nat 7 hlt rfl, typR, okR, bR, Nat.reduceEqDiff, reduceIte, Int.reduceBNe, Int.reduceBEq]
      rw [stR3_ok (e_isVal _) (by rw [e_okS]; rfl) ((e_sh _).trans rfl)]
      simp only [typR, useR, okR, bR, Nat.reduceEqDiff, reduceIte, Int.reduceBNe, Int.reduceBEq]
      refine .done (hK _ ?_); clear hK K; simp only [thenQ, blockQ]
      refine AW.reg cd72_5 fun K hK => ?_
      simp only [g72_5, bR, Nat.reduceEqDiff, reduceIte, Int.reduceBNe, Int.reduceBEq]
      simp only [typR, useR, okR, bR, Nat.reduceEqDiff, reduceIte, Int.reduceBNe, Int.reduceBEq]
      rw [appR3_enc 3 1 8 3 rfl rfl (by simp) (by simp [maxLen, ownL_len hi]; omega) (by simp [ownL_len hi]; omega)]
      simp only [bR, Nat.reduceEqDiff, reduceIte, Int.reduceBNe, Int.reduceBEq]
      refine .done (hK _ ?_); clear hK K; simp only [thenQ, blockQ]
      refine AW.reg cd72_6 fun K hK => ?_
      simp only [g72_6, bR, Nat.reduceEqDiff, reduceIte, Int.reduceBNe, Int.reduceBEq]
      refine .done (hK _ ?_); clear hK K; simp only [thenQ, blockQ]
      refine ⟨i + 1, by omega, by omega, ?_⟩
      rw [wrap_id _ (by omega) (by omega), ownL_succ hlt]
      refine Sub.of_lists ?_ ?_ ?_ ?_ <;> simp [subT, subO, onlyT, onlyO, isIn, look_cons, lookO_cons, lookO_nil, AV.only, AV.onlys, AO.only, onlys_map, onlys_append, e_only, e_int, e_bool]
    · have hge : i = l.length := by simp at h; omega
      subst hge
      refine AW.exit ?_; simp only [thenQ, blockQ, reduceIte, Nat.reduceEqDiff]
      refine AW.seq (AW.reg cd72_7 fun K hK => ?_)
      simp only [g72_7, bR, Nat.reduceEqDiff, reduceIte, Int.reduceBNe, Int.reduceBEq]
      refine .done (hK _ ?_); clear hK K; simp only [thenQ, blockQ]
      refine AW.ret ?_
      simp only [blockQ, thenQ, ownL_all, bR, Nat.reduceEqDiff, reduceIte, Int.reduceBNe, Int.reduceBEq]
theorem possG_owners (m : Marks) (r : Arr 6 Int) : (possG m r).map (·.owner) = ownersIn m r m.given := by
  simp only [possG, keep, ownersIn]
  congr 1
  refine List.filter_congr fun g _ => ?_
  by_cases h : m.fls < costOf m.wear g.mark r
  · have : ¬ costOf m.wear g.mark r ≤ m.fls := by omega
    simp [h, this]
  · have : costOf m.wear g.mark r ≤ m.fls := by omega
    simp [h, this]
theorem F26 (m : Marks) (r : Arr 6 Int) : Ctr Try.prog 26 [enc m, enc r] (.tuple [enc (ownersOf m r).1, enc (ownersOf m r).2]) := by
  refine Ctr.mk' Try.func26 ca26 cc26 cr26 (Nat.le_of_ble_eq_true rfl) (fun hwf W0 D0 E1 => ?_)
  simp only [c26, r26, idx, Nat.zero_add, Nat.reduceAdd]
  refine AW.seq (AW.reg cd26_0 fun K hK => ?_)
  simp only [g26_0, bR, Nat.reduceEqDiff, reduceIte, Int.reduceBNe, Int.reduceBEq]
  simp only [e_isVal, bR, Nat.reduceEqDiff, reduceIte, Int.reduceBNe, Int.reduceBEq]
  refine .done (hK _ ?_); clear hK K; simp only [thenQ, blockQ]
  refine AW.seq ?_
  refine AW.seq (AW.reg cd26_1 fun K hK => ?_)
  simp only [g26_1, bR, Nat.reduceEqDiff, reduceIte, Int.reduceBNe, Int.reduceBEq]
  simp only [typR, useR, okR, e_fin, bR, Nat.reduceEqDiff, reduceIte, Int.reduceBNe, Int.reduceBEq]
  refine .flat _ (F47 m) rfl ?_
  simp only [typR, useR, okR, e_fin, bR, Nat.reduceEqDiff, reduceIte, Int.reduceBNe, Int.reduceBEq]
  refine .flat _ (F45 r) rfl ?_
  simp only [typR, useR, okR, e_fin, bs2, bR, Nat.reduceEqDiff, reduceIte, Int.reduceBNe, Int.reduceBEq]
  refine .flat _ (F64 _) rfl ?_
  rw [first2 _ _ 13 12 (by decide) (by decide)]
  simp only [bR, Nat.reduceEqDiff, reduceIte, Int.reduceBNe, Int.reduceBEq]
  refine .done (hK _ ?_); clear hK K; simp only [thenQ, blockQ]
  generalize hw : okM m = bw
  generalize hr : okReading r = br
  cases bw
  · refine AW.seq (AW.reg cd26_2 fun K hK => ?_)
    simp only [g26_2, bR, Nat.reduceEqDiff, reduceIte, Int.reduceBNe, Int.reduceBEq]
    refine .done (hK _ ?_); clear hK K; simp only [thenQ, blockQ]
    refine AW.ite ?_
    simp only [condQ, bR, Nat.reduceEqDiff, reduceIte, Int.reduceBNe, Int.reduceBEq]
    refine ⟨fun h => ?_, fun h => ?_⟩
    · refine AW.seq (AW.reg cd26_3 fun K hK => ?_)
      simp only [g26_3, bR, Nat.reduceEqDiff, reduceIte, Int.reduceBNe, Int.reduceBEq]
      refine .done (hK _ ?_); clear hK K; simp only [thenQ, blockQ]
      refine AW.ret ?_
      simp only [blockQ, thenQ, bR, Nat.reduceEqDiff, reduceIte, Int.reduceBNe, Int.reduceBEq]
      simp [ownersOf, hw, nilInt]
    · cases h
  cases br
  · refine AW.seq (AW.reg cd26_2 fun K hK => ?_)
    simp only [g26_2, bR, Nat.reduceEqDiff, reduceIte, Int.reduceBNe, Int.reduceBEq]
    refine .done (hK _ ?_); clear hK K; simp only [thenQ, blockQ]
    refine AW.ite ?_
    simp only [condQ, bR, Nat.reduceEqDiff, reduceIte, Int.reduceBNe, Int.reduceBEq]
    refine ⟨fun h => ?_, fun h => ?_⟩
    · refine AW.seq (AW.reg cd26_3 fun K hK => ?_)
      simp only [g26_3, bR, Nat.reduceEqDiff, reduceIte, Int.reduceBNe, Int.reduceBEq]
      refine .done (hK _ ?_); clear hK K; simp only [thenQ, blockQ]
      refine AW.ret ?_
      simp only [blockQ, thenQ, bR, Nat.reduceEqDiff, reduceIte, Int.reduceBNe, Int.reduceBEq]
      simp [ownersOf, hw, hr, nilInt]
    · cases h
  refine AW.seq (AW.reg cd26_2 fun K hK => ?_)
  simp only [g26_2, bR, Nat.reduceEqDiff, reduceIte, Int.reduceBNe, Int.reduceBEq]
  refine .done (hK _ ?_); clear hK K; simp only [thenQ, blockQ]
  refine AW.ite ?_
  simp only [condQ, bR, Nat.reduceEqDiff, reduceIte, Int.reduceBNe, Int.reduceBEq]
  refine ⟨fun h => ?_, fun h => ?_⟩
  · cases h
  refine AW.skip ?_; simp only [thenQ, blockQ, reduceIte, Nat.reduceEqDiff]
  have hlen : m.given.length ≤ 1000 := by have := okM_len hw; omega
  have hpl : (possG m r).length ≤ 1000 := Nat.le_trans (List.length_filter_le _ _) hlen
  refine AW.seq (AW.reg cd26_4 fun K hK => ?_)
  simp only [g26_4, bR, Nat.reduceEqDiff, reduceIte, Int.reduceBNe, Int.reduceBEq]
  simp only [typR, useR, okR, e_fin, bR, Nat.reduceEqDiff, reduceIte, Int.reduceBNe, Int.reduceBEq]
  refine .obj false [(7, 18)] [] [enc m, enc r] (possPost 7 m r) rfl (F65 m r (okM_mark hw) hlen) Gvn.nil ⟨.inl ⟨(e_ren _ _).symm, e_only _ _, e_isVal _⟩, .inl ⟨(e_ren _ _).symm, e_only _ _, e_isVal _⟩, trivial⟩ ?_ ?_
  · rintro x os' (⟨_, rfl, rfl⟩ | ⟨k, rfl, rfl⟩)
    · exact Bck.nil (fun _ => rfl) (fun h => by cases h)
    · exact Bck.new1 (fun p => map_only p _) (fun h => by cases h) rfl (fun h => by cases h) rfl (by decide)
  · rintro x os' (⟨hp, rfl, rfl⟩ | ⟨k, rfl, rfl⟩)
    · simp only [e_ren, renR, List.nil_append, e_fin, bR, Nat.reduceEqDiff, reduceIte, Int.reduceBNe, Int.reduceBEq]
      refine .lead _ (F72 [] (by simp)) ?_
      simp only [List.map_nil, bR, Nat.reduceEqDiff, reduceIte, Int.reduceBNe, Int.reduceBEq]
      refine .done (hK _ ?_); clear hK K; simp only [thenQ, blockQ]
      refine AW.ret ?_
      simp only [blockQ, thenQ, bR, Nat.reduceEqDiff, reduceIte, Int.reduceBNe, Int.reduceBEq]
      simp only [e_fin, bR, Nat.reduceEqDiff, reduceIte, Int.reduceBNe, Int.reduceBEq]
      simp [ownersOf, hw, hr, ← possG_owners, hp]
    · simp only [rowG, renR, rens_map_enc, List.cons_append, List.nil_append, bR, Nat.reduceEqDiff, reduceIte, Int.reduceBNe, Int.reduceBEq]
      refine .free [18] _ rfl (F72 (possG m r) hpl) ?_ ?_ ?_
      · simp only [keepO, List.filter_cons, List.filter_nil, List.contains_cons, List.contains_nil, Nat.reduceBEq, Bool.or_false, Bool.or_true, Bool.true_or, BEq.rfl, finV_take (α := Given) (sz := 7) rfl, take_row, bR, Nat.reduceEqDiff, reduceIte, Int.reduceBNe, Int.reduceBEq]
      · simp [dropO, onlyO, AO.only, e_only]
      · simp only [fgt, dropO, List.filter_cons, List.filter_nil, List.contains_cons, List.contains_nil, Nat.reduceBEq, Bool.or_false, Bool.or_true, Bool.true_or, BEq.rfl, AV.only, e_only, bR, Nat.reduceEqDiff, reduceIte, Int.reduceBNe, Int.reduceBEq]
        refine .done (hK _ ?_); clear hK K; simp only [thenQ, blockQ]
        refine AW.ret ?_
        simp only [blockQ, thenQ, bR, Nat.reduceEqDiff, reduceIte, Int.reduceBNe, Int.reduceBEq]
        simp only [e_fin, bR, Nat.reduceEqDiff, reduceIte, Int.reduceBNe, Int.reduceBEq]
        simp [ownersOf, hw, hr, possG_owners]
end Go.Proofs.Ytkjkbpgdpnapfaa

/-
  ARRAYS WRITTEN PLACE BY PLACE; by contract: Numbered.
-/
namespace Go.Proofs.Ytkjkbpgdpnapfaa
open Go Go.Abs
open Go.Abs.Enc (enc)
def upd {n : Nat} (x : Arr n Int) (k : Nat) (v : Int) : Arr n Int := ⟨x.l.set k v, by simp [x.h]⟩
theorem g_upd {n : Nat} (x : Arr n Int) (k j : Nat) (v : Int) (h : k < n) : (upd x k v).g j = if k = j then v else x.g j := by
  simp only [Arr.g, upd, List.getD_eq_getElem?_getD, List.getElem?_set]
  by_cases hkj : k = j
  · subst hkj; simp [x.lt h]
  · simp [hkj]
theorem setAt_g {n k : Nat} (x : Arr n Int) (h : k < n) (v : Int) : (enc x : AV).setAt [k] (.int .i64 v) = enc (upd x k v) := by
  have h1 : (enc x : AV).flds = some (x.l.map enc) := rfl
  rw [setAt_cons, h1]
  simp only [setL, get_g x h, setO2, setAt_nil]
  change AV.agg _ = AV.agg ((x.l.set k v).map enc)
  rw [List.map_set]; rfl
theorem stR3_g {A : AState} {n m k : Nat} (x : Arr m Int) (h : k < m) {v u : Int} {rest : List G} : stR3 A none n [k] (enc x) (.int .i64 v) rest (some (.int .i64 u)) = aops rest (A.setO n (.box (enc (upd x k v)))) := by
  rw [stR3_ok (s := none) (v := .int .i64 v) (old := .int .i64 u) rfl rfl rfl, setAt_g x h]
def nd (n : Int) : Nat → Int
  | 0 => n
  | k + 1 => (nd n k).tdiv 5
def digits (n : Int) : Nat → Arr 6 Int
  | 0 => zero6
  | k + 1 => upd (digits n k) (5 - k) ((nd n k).tmod 5)
theorem nd_in (n : Int) (h : -9223372036854775808 ≤ n ∧ n ≤ 9223372036854775807) : ∀ k, -9223372036854775808 ≤ nd n k ∧ nd n k ≤ 9223372036854775807
  | 0 => h
  | k + 1 => by
    have := nd_in n h k
    simp only [nd]
    rcases Int.le_total 0 (nd n k) with h0 | h0
    · rw [Int.tdiv_eq_ediv_of_nonneg h0]; omega
    · have : (nd n k).tdiv 5 = -((-(nd n k)) / 5) := by
        rw [← Int.tdiv_eq_ediv_of_nonneg (by omega), Int.neg_tdiv, Int.neg_neg]
      omega
theorem F35 (n : Int) : Ctr Try.prog 35 [enc n] (enc (digits n 6)) := by
  refine Ctr.mk' Try.func35 ca35 cc35 cr35 (Nat.le_of_ble_eq_true rfl) (fun hwf W0 D0 E1 => ?_)
  simp only [c35, r35, idx, Nat.zero_add, Nat.reduceAdd]
  have hin := nd_in n ((wf_int n).1 hwf.1)
  have h5 : ¬ (5 : Int) = 0 := by decide
  refine AW.seq (AW.reg cd35_0 fun K hK => ?_)
  simp only [g35_0, bR, Nat.reduceEqDiff, reduceIte, Int.reduceBNe, Int.reduceBEq]
  refine .done (hK _ ?_); clear hK K; simp only [thenQ, blockQ]
  refine AW.seq (AW.reg cd35_1 fun K hK => ?_)
  simp only [g35_1, bR, Nat.reduceEqDiff, reduceIte, Int.reduceBNe, Int.reduceBEq]
  simp only [e_zero6]
  refine .done (hK _ ?_); clear hK K; simp only [thenQ, blockQ]
  refine AW.seq (AW.seq ?_)
  refine AW.reg cd35_2 fun K hK => ?_
  simp only [g35_2, bR, Nat.reduceEqDiff, reduceIte, Int.reduceBNe, Int.reduceBEq]
  refine .done (hK _ ?_); clear hK K; simp only [thenQ, blockQ]
  refine AW.block (AW.loop (fun k : Nat => mkA [(0, .int .i64 (nd n k)), (2, .ptr 2 []), (3, .ptr 3 []), (4, .int .i64 (5 - k))] [(2, .box (enc zero6)), (3, .box (enc (digits n k)))]) (fun k => k ≤ 6) (fun k => 6 - k) 0 (by omega) ?_ (fun k hk => ?_))
  · refine Sub.of_lists ?_ ?_ ?_ ?_ <;> simp [subT, subO, onlyT, onlyO, isIn, look_cons, lookO_cons, lookO_nil, AV.only, AV.onlys, AO.only, onlys_map, onlys_append, e_only, e_int, e_bool]
    all_goals rfl
  refine AW.seq (AW.seq ?_)
  refine AW.reg cd35_3 fun K hK => ?_
  simp only [g35_3, bR, Nat.reduceEqDiff, reduceIte, Int.reduceBNe, Int.reduceBEq]
  refine .done (hK _ ?_); clear hK K; simp only [thenQ, blockQ]
  refine AW.ite ?_
  simp only [condQ, bR, Nat.reduceEqDiff, reduceIte, Int.reduceBNe, Int.reduceBEq]
  refine ⟨fun h => ?_, fun h => ?_⟩
  · have hlt : k < 6 := by simp at h; omega
    have hd := hin k
    have e1 : ((5 : Int) - k).toNat = 5 - k := by omega
    have hlt' : 5 - k < 6 := by omega
    refine AW.skip ?_; simp only [thenQ, blockQ, reduceIte, Nat.reduceEqDiff]
    refine AW.seq (AW.block ?_)
    refine AW.seq (AW.reg cd35_4 fun K hK => ?_)
    simp only [g35_4, bR, Nat.reduceEqDiff, reduceIte, Int.reduceBNe, Int.reduceBEq]
    simp only [h5, useR, inB_int 1 (digits n k) (show (0 : Int) ≤ 5 - k ∧ (5 : Int) - k < (6 : Nat) by omega) rfl, e1, atL_g (digits n k) hlt', stR3_g (digits n k) hlt', bR, Nat.reduceEqDiff, reduceIte, Int.reduceBNe, Int.reduceBEq]
    refine .done (hK _ ?_); clear hK K; simp only [thenQ, blockQ]
    refine AW.reg cd35_5 fun K hK => ?_
    simp only [g35_5, bR, Nat.reduceEqDiff, reduceIte, Int.reduceBNe, Int.reduceBEq]
    simp only [h5, bR, Nat.reduceEqDiff, reduceIte, Int.reduceBNe, Int.reduceBEq]
    refine .done (hK _ ?_); clear hK K; simp only [thenQ, blockQ]
    refine AW.reg cd35_6 fun K hK => ?_
    simp only [g35_6, bR, Nat.reduceEqDiff, reduceIte, Int.reduceBNe, Int.reduceBEq]
    refine .done (hK _ ?_); clear hK K; simp only [thenQ, blockQ]
    refine ⟨k + 1, by omega, by omega, ?_⟩
    have hq := hin (k + 1)
    simp only [nd] at hq
    rw [wrap_id _ (by omega) (by omega), wrap_id _ hq.1 hq.2]
    have e2 : (5 : Int) - k - 1 = 5 - ((k + 1 : Nat) : Int) := by omega
    rw [e2]
    simp only [nd, digits]
    refine Sub.of_lists ?_ ?_ ?_ ?_ <;> simp [subT, subO, onlyT, onlyO, isIn, look_cons, lookO_cons, lookO_nil, AV.only, AV.onlys, AO.only, onlys_map, onlys_append, e_only, e_int, e_bool]
  · have hge : k = 6 := by simp at h; omega
    subst hge
    refine AW.exit ?_; simp only [thenQ, blockQ, reduceIte, Nat.reduceEqDiff]
    refine AW.seq (AW.reg cd35_7 fun K hK => ?_)
    simp only [g35_7, bR, Nat.reduceEqDiff, reduceIte, Int.reduceBNe, Int.reduceBEq]
    simp only [typR, useR, bR, Nat.reduceEqDiff, reduceIte, Int.reduceBNe, Int.reduceBEq]
    rw [stR3_ok (e_isVal _) (by rw [e_okS]; rfl) ((e_sh _).trans (e_sh _).symm)]
    simp only [bR, Nat.reduceEqDiff, reduceIte, Int.reduceBNe, Int.reduceBEq]
    refine .done (hK _ ?_); clear hK K; simp only [thenQ, blockQ]
    refine AW.ret ?_
    simp only [blockQ, thenQ, bR, Nat.reduceEqDiff, reduceIte, Int.reduceBNe, Int.reduceBEq]
    simp only [typR, e_fin, bR, Nat.reduceEqDiff, reduceIte, Int.reduceBNe, Int.reduceBEq]
end Go.Proofs.Ytkjkbpgdpnapfaa

/-
  FUNCTIONS OF mark BY CONTRACT: the iterator marks.
-/
namespace Go.Proofs.Ytkjkbpgdpnapfaa
open Go Go.Abs
open Go.Abs.Enc (enc)
/-- The digits of a number in base five, six places. -/
def dg (k : Nat) : Nat → Int
  | 0 => ((k / 5 / 5 / 5 / 5 / 5 % 5 : Nat) : Int)
  | 1 => ((k / 5 / 5 / 5 / 5 % 5 : Nat) : Int)
  | 2 => ((k / 5 / 5 / 5 % 5 : Nat) : Int)
  | 3 => ((k / 5 / 5 % 5 : Nat) : Int)
  | 4 => ((k / 5 % 5 : Nat) : Int)
  | 5 => ((k % 5 : Nat) : Int)
  | _ => 0
def dgs (k : Nat) : Arr 6 Int := ⟨[dg k 0, dg k 1, dg k 2, dg k 3, dg k 4, dg k 5], rfl⟩
/-- The places behind i are nought. -/
def carry (k : Nat) : Nat → Arr 6 Int
  | 0 => ⟨[dg k 0, 0, 0, 0, 0, 0], rfl⟩
  | 1 => ⟨[dg k 0, dg k 1, 0, 0, 0, 0], rfl⟩
  | 2 => ⟨[dg k 0, dg k 1, dg k 2, 0, 0, 0], rfl⟩
  | 3 => ⟨[dg k 0, dg k 1, dg k 2, dg k 3, 0, 0], rfl⟩
  | 4 => ⟨[dg k 0, dg k 1, dg k 2, dg k 3, dg k 4, 0], rfl⟩
  | _ => dgs k
def fours : Arr 6 Int := ⟨[4, 4, 4, 4, 4, 4], rfl⟩
def upto : Nat → Arr 6 Int
  | 0 => zero6
  | i + 1 => upd (upto i) i 4
theorem upto6 : upto 6 = fours := rfl
theorem dgs0 : dgs 0 = zero6 := rfl
theorem dg_in (k i : Nat) : 0 ≤ dg k i ∧ dg k i ≤ 4 := by
  unfold dg; split <;> omega
theorem carry_g (k : Nat) : ∀ i, i < 6 → (carry k i).g i = dg k i
  | 0, _ | 1, _ | 2, _ | 3, _ | 4, _ | 5, _ => rfl
  | n + 6, h => absurd h (by omega)
theorem carry_down (k : Nat) : ∀ i, i + 1 < 6 → upd (carry k (i + 1)) (i + 1) 0 = carry k i
  | 0, _ | 1, _ | 2, _ | 3, _ | 4, _ => rfl
  | n + 5, h => absurd h (by omega)
theorem arr_ext {n : Nat} {x y : Arr n Int} (h : x.l = y.l) : x = y := by
  cases x; cases y; simp only at h; subst h; rfl
theorem carry_up (k : Nat) (hk : k < 15625) : ∀ i, i < 6 → (∀ j, i < j → j < 6 → dg k j = 4) → dg k i ≠ 4 → upd (carry k i) i (dg k i + 1) = dgs (k + 1)
  | 0, _, hj, hi => by
    have h1 := hj 1 (by decide) (by decide); have h2 := hj 2 (by decide) (by decide); have h3 := hj 3 (by decide) (by decide); have h4 := hj 4 (by decide) (by decide); have h5 := hj 5 (by decide) (by decide)
    refine arr_ext ?_
    simp only [upd, carry, dgs, dg, List.set_cons_zero, List.set_cons_succ] at *
    simp only [List.cons.injEq, and_true]
    omega
  | 1, _, hj, hi => by
    have h2 := hj 2 (by decide) (by decide); have h3 := hj 3 (by decide) (by decide); have h4 := hj 4 (by decide) (by decide); have h5 := hj 5 (by decide) (by decide)
    refine arr_ext ?_
    simp only [upd, carry, dgs, dg, List.set_cons_zero, List.set_cons_succ] at *
    simp only [List.cons.injEq, and_true]
    omega
  | 2, _, hj, hi => by
    have h3 := hj 3 (by decide) (by decide); have h4 := hj 4 (by decide) (by decide); have h5 := hj 5 (by decide) (by decide)
    refine arr_ext ?_
    simp only [upd, carry, dgs, dg, List.set_cons_zero, List.set_cons_succ] at *
    simp only [List.cons.injEq, and_true]
    omega
  | 3, _, hj, hi => by
    have h4 := hj 4 (by decide) (by decide); have h5 := hj 5 (by decide) (by decide)
    refine arr_ext ?_
    simp only [upd, carry, dgs, dg, List.set_cons_zero, List.set_cons_succ] at *
    simp only [List.cons.injEq, and_true]
    omega
  | 4, _, hj, hi => by
    have h5 := hj 5 (by decide) (by decide)
    refine arr_ext ?_
    simp only [upd, carry, dgs, dg, List.set_cons_zero, List.set_cons_succ] at *
    simp only [List.cons.injEq, and_true]
    omega
  | 5, _, hj, hi => by
    refine arr_ext ?_
    simp only [upd, carry, dgs, dg, List.set_cons_zero, List.set_cons_succ] at *
    simp only [List.cons.injEq, and_true]
    omega
  | n + 6, h, _, _ => absurd h (by omega)
theorem dgs_fours (k : Nat) (hk : k < 15625) : (dgs k).l = fours.l ↔ k = 15624 := by
  simp only [dgs, dg, fours, List.cons.injEq, and_true]
  omega
theorem dg_fours (k : Nat) (hk : k < 15625) (h : ∀ j, j < 6 → dg k j = 4) : k = 15624 := by
  have h0 := h 0 (by decide); have h1 := h 1 (by decide); have h2 := h 2 (by decide); have h3 := h 3 (by decide); have h4 := h 4 (by decide); have h5 := h 5 (by decide)
  simp only [dg] at *
  omega
end Go.Proofs.Ytkjkbpgdpnapfaa

/-
  EQUALITY OF ARRAYS AND OF GIVEN MARKS, AS THE PROGRAM TELLS IT; by contract: SameMarks (under way).
-/
namespace Go.Proofs.Ytkjkbpgdpnapfaa
open Go Go.Abs
open Go.Abs.Enc (enc)
theorem eqE_int (a b : Int) : eqE (.i .i64) (enc a) (enc b) = some (a == b) := by simp [e_int, eqE]
theorem foldr_ints : ∀ (x y : List Int), x.length = y.length → ((x.map (enc (α := Int))).zip (y.map (enc (α := Int)))).foldr (fun p acc => andO (eqE (.i .i64) p.1 p.2) acc) (some true) = some (decide (x = y))
  | [], [], _ => by simp
  | a :: x, b :: y, h => by
    have ih := foldr_ints x y (by simpa using h)
    rw [List.map_cons, List.map_cons, List.zip_cons_cons, List.foldr_cons, ih, eqE_int]
    by_cases hab : a = b <;> by_cases hxy : x = y <;> simp [andO, hab, hxy]
theorem eqE_arr {n : Nat} (x y : Arr n Int) : eqE (.ar n (.i .i64)) (enc x) (enc y) = some (decide (x.l = y.l)) := by
  change eqE (.ar n (.i .i64)) (.agg (x.l.map enc)) (.agg (y.l.map enc)) = _
  rw [eqE, if_pos ⟨by simp [x.h], by simp [y.h]⟩]
  exact foldr_ints x.l y.l (by rw [x.h, y.h])
end Go.Proofs.Ytkjkbpgdpnapfaa

/-
  FUNCTIONS OF mark BY CONTRACT: the iterator marks, its walk.
-/
namespace Go.Proofs.Ytkjkbpgdpnapfaa
open Go Go.Abs
open Go.Abs.Enc (enc)
theorem own23 {a b : AO} : ∀ m, isIn [(2, a), (3, b)] m = true → m < 1000000 := fun m h => by
  simp only [isIn, lookO] at h
  split at h
  · omega
  · split at h
    · omega
    · simp at h
theorem heldG {os os2 ow : List (Nat × AO)} {ts : List (Nat × AV)} (h : GoodO os os2) (how : ∀ m, isIn ow m = true → m < 1000000) : ∀ n x, lookO os2 n = some x → (mkA ts (ow ++ os2)).o n = some x ∧ x.only (isIn os2) = true ∧ x.fix = true := fun n x hx => by
  have hn : isIn os2 n = true := by simp [isIn, hx]
  have hg := h.great n (by rw [← h.same]; exact hn)
  refine ⟨?_, h.ok n x hx⟩
  simp only [mkA, lookO_app]
  cases hw : lookO ow n with
  | none => exact hx
  | some y => have := how n (by simp [isIn, hw]); omega
theorem F121 : Iter Try.prog 121 [] 15625 (fun k => [enc (dgs k)]) := by
  intro Y v I Ix os hv hY hI hIx h0
  have hG := hI 0 os h0
  refine CtrY.mk' Try.func121 ca121 cc121 cr121 (Nat.le_of_ble_eq_true rfl) (Nat.le_of_ble_eq_true rfl) hG.great (fun hwf W0 D0 E1 => ?_)
  simp only [c121, r121, idx, Nat.zero_add, Nat.reduceAdd]
  have n2 := hG.none (n := 2) (by decide)
  have n3 := hG.none (n := 3) (by decide)
  refine AW.seq (AW.reg cd121_0 fun K hK => ?_)
  simp only [g121_0, bR, Nat.reduceEqDiff, reduceIte, Int.reduceBNe, Int.reduceBEq]
  simp only [n2, n3, e_zero6, bR, Nat.reduceEqDiff, reduceIte, Int.reduceBNe, Int.reduceBEq]
  refine .done (hK _ ?_); clear hK K; simp only [thenQ, blockQ]
  refine AW.seq ?_
  refine AW.seq (AW.reg cd121_1 fun K hK => ?_)
  simp only [g121_1, bR, Nat.reduceEqDiff, reduceIte, Int.reduceBNe, Int.reduceBEq]
  refine .done (hK _ ?_); clear hK K; simp only [thenQ, blockQ]
  refine AW.block (AW.loop (fun i : Nat => mkA [(0, .raw v), (2, .ptr 2 []), (3, .ptr 3 []), (6, .int .i64 i)] ((2, .box (enc zero6)) :: (3, .box (enc (upto i))) :: os)) (fun i => i ≤ 6) (fun i => 6 - i) 0 (by omega) ?_ (fun i hi => ?_))
  · refine Sub.slots ?_ (fun n => ?_)
    · simp [subT, look_cons]
    · simp only [lookO_cons, upto]; (repeat' split) <;> simp_all
  refine AW.seq (AW.reg cd121_2 fun K hK => ?_)
  simp only [g121_2, bR, Nat.reduceEqDiff, reduceIte, Int.reduceBNe, Int.reduceBEq]
  refine .done (hK _ ?_); clear hK K; simp only [thenQ, blockQ]
  refine AW.seq ?_
  refine AW.ite ?_
  simp only [condQ, bR, Nat.reduceEqDiff, reduceIte, Int.reduceBNe, Int.reduceBEq]
  refine ⟨fun h => ?_, fun h => ?_⟩
  · have hlt : i < 6 := by simp at h; omega
    refine AW.skip ?_; simp only [thenQ, blockQ, reduceIte, Nat.reduceEqDiff]
    refine AW.seq (AW.block ?_)
    refine AW.seq (AW.reg cd121_3 fun K hK => ?_)
    simp only [g121_3, bR, Nat.reduceEqDiff, reduceIte, Int.reduceBNe, Int.reduceBEq]
    refine .done (hK _ ?_); clear hK K; simp only [thenQ, blockQ]
    refine AW.reg cd121_4 fun K hK => ?_
    simp only [g121_4, bR, Nat.reduceEqDiff, reduceIte, Int.reduceBNe, Int.reduceBEq]
    simp only [typR, useR, okR, inB_int 1 (upto i) (show (0 : Int) ≤ i ∧ (i : Int) < (6 : Nat) by omega) rfl, atL_g (upto i) hlt, stR3_g (upto i) hlt, bR, Nat.reduceEqDiff, reduceIte, Int.reduceBNe, Int.reduceBEq]
    refine .done (hK _ ?_); clear hK K; simp only [thenQ, blockQ]
    refine AW.reg cd121_5 fun K hK => ?_
    simp only [g121_5, bR, Nat.reduceEqDiff, reduceIte, Int.reduceBNe, Int.reduceBEq]
    refine .done (hK _ ?_); clear hK K; simp only [thenQ, blockQ]
    refine ⟨i + 1, by omega, by omega, ?_⟩
    rw [wrap_id _ (by omega) (by omega)]
    refine Sub.slots ?_ (fun n => ?_)
    · simp [subT, look_cons]
    · simp only [lookO_cons, upto]; (repeat' split) <;> simp_all
  have h6 : i = 6 := by simp at h; omega
  subst h6
  rw [upto6]
  refine AW.exit ?_; simp only [thenQ, blockQ, reduceIte, Nat.reduceEqDiff]
  -- the marks, one after the other
  refine AW.block (AW.loop (fun s : Nat × List (Nat × AO) => mkA [(0, .raw v), (2, .ptr 2 []), (3, .ptr 3 [])] ((2, .box (enc (dgs s.1))) :: (3, .box (enc fours)) :: s.2)) (fun s => s.1 < 15625 ∧ I s.1 s.2) (fun s => 15625 - s.1) (0, os) ⟨by simp only; omega, h0⟩ ?_ ?_)
  · simp only [dgs0]
    refine Sub.slots ?_ (fun n => rfl)
    simp [subT, look_cons]
  rintro ⟨k, osk⟩ ⟨hk, hIk⟩
  simp only at hk hIk ⊢
  have gk := hI k osk hIk
  refine AW.seq (AW.seq ?_)
  refine AW.reg cd121_6 fun K hK => ?_
  simp only [g121_6, bR, Nat.reduceEqDiff, reduceIte, Int.reduceBNe, Int.reduceBEq]
  simp only [typR, useR, okR, callvR_raw, bR, Nat.reduceEqDiff, reduceIte, Int.reduceBNe, Int.reduceBEq]
  refine WP.yields (ow := [(2, _), (3, _)]) (In := I (k + 1)) (Ix := Ix) (hY k osk _ hk hIk (fun r os2 h => h)) gk (hI _) hIx (by simp [AV.closeds, e_closed]) own23 (fun os2 h2 => ?_) (fun os2 h2 => ?_)
  · have g2 := hI _ os2 h2
    simp only [List.cons_append, List.nil_append]
    simp only [typR, useR, okR, eqE_arr, bR, Nat.reduceEqDiff, reduceIte, Int.reduceBNe, Int.reduceBEq]
    refine .done (hK _ ?_); clear hK K; simp only [thenQ, blockQ]
    refine AW.ite ?_
    simp only [condQ, bR, Nat.reduceEqDiff, reduceIte, Int.reduceBNe, Int.reduceBEq]
    refine ⟨fun h => ?_, fun h => ?_⟩
    · have hne : k ≠ 15624 := fun e => by simp [(dgs_fours k hk).2 e] at h
      refine AW.skip ?_; simp only [thenQ, blockQ, reduceIte, Nat.reduceEqDiff]
      refine AW.block ?_
      refine AW.seq (AW.reg cd121_7 fun K hK => ?_)
      simp only [g121_7, bR, Nat.reduceEqDiff, reduceIte, Int.reduceBNe, Int.reduceBEq]
      refine .done (hK _ ?_); clear hK K; simp only [thenQ, blockQ]
      refine AW.seq (AW.block (AW.loop (fun i : Nat => mkA [(0, .raw v), (2, .ptr 2 []), (3, .ptr 3 []), (5, .int .i64 i)] ((2, .box (enc (carry k i))) :: (3, .box (enc fours)) :: os2)) (fun i => i < 6 ∧ ∀ j, i < j → j < 6 → dg k j = 4) (fun i => i) 5 ⟨by decide, fun j h1 h2 => by omega⟩ ?_ ?_))
      · refine Sub.slots ?_ (fun n => ?_)
        · simp [subT, look_cons]
        · simp only [lookO_cons]; (repeat' split) <;> simp_all [carry]
      rintro i ⟨hi, hj⟩
      refine AW.seq (AW.seq ?_)
      refine AW.reg cd121_8 fun K hK => ?_
      simp only [g121_8, bR, Nat.reduceEqDiff, reduceIte, Int.reduceBNe, Int.reduceBEq]
      simp only [typR, useR, okR, inB_int 1 (carry k i) (show (0 : Int) ≤ i ∧ (i : Int) < (6 : Nat) by omega) rfl, atL_g (carry k i) hi, carry_g k i hi, bR, Nat.reduceEqDiff, reduceIte, Int.reduceBNe, Int.reduceBEq]
      refine .done (hK _ ?_); clear hK K; simp only [thenQ, blockQ]
      refine AW.ite ?_
      simp only [condQ, bR, Nat.reduceEqDiff, reduceIte, Int.reduceBNe, Int.reduceBEq]
      refine ⟨fun h => ?_, fun h => ?_⟩
      · have h4 : dg k i = 4 := by simpa using h
        have hi0 : i ≠ 0 := fun e => by
          subst e
          exact hne (dg_fours k hk fun j hj6 => by
            rcases Nat.eq_zero_or_pos j with e | e
            · subst e; exact h4
            · exact hj j e hj6)
        obtain ⟨i', rfl⟩ : ∃ i', i = i' + 1 := ⟨i - 1, by omega⟩
        refine AW.skip ?_; simp only [thenQ, blockQ, reduceIte, Nat.reduceEqDiff]
        refine AW.block ?_
        refine AW.seq (AW.reg cd121_9 fun K hK => ?_)
        simp only [g121_9, bR, Nat.reduceEqDiff, reduceIte, Int.reduceBNe, Int.reduceBEq]
        simp only [typR, useR, okR, inB_int 1 (carry k (i' + 1)) (show (0 : Int) ≤ ((i' + 1 : Nat) : Int) ∧ ((i' + 1 : Nat) : Int) < (6 : Nat) by omega) rfl, atL_g (carry k (i' + 1)) hi, stR3_g (carry k (i' + 1)) hi, carry_down k i' hi, bR, Nat.reduceEqDiff, reduceIte, Int.reduceBNe, Int.reduceBEq]
        refine .done (hK _ ?_); clear hK K; simp only [thenQ, blockQ]
        refine AW.reg cd121_10 fun K hK => ?_
        simp only [g121_10, bR, Nat.reduceEqDiff, reduceIte, Int.reduceBNe, Int.reduceBEq]
        refine .done (hK _ ?_); clear hK K; simp only [thenQ, blockQ]
        refine ⟨i', ⟨by omega, fun j h1 h2 => ?_⟩, by omega, ?_⟩
        · rcases Nat.lt_or_ge (i' + 1) j with h5 | h5
          · exact hj j h5 h2
          · have : j = i' + 1 := by omega
            subst this; exact h4
        · rw [wrap_id _ (by omega) (by omega)]
          have e2 : (((i' + 1 : Nat) : Int) - 1) = (i' : Int) := by omega
          rw [e2]
          refine Sub.slots ?_ (fun n => ?_)
          · simp [subT, look_cons]
          · simp only [lookO_cons]; (repeat' split) <;> simp_all
      · have h4 : dg k i ≠ 4 := by simpa using h
        have hd := dg_in k i
        refine AW.exit ?_; simp only [thenQ, blockQ, reduceIte, Nat.reduceEqDiff]
        refine AW.reg cd121_11 fun K hK => ?_
        simp only [g121_11, bR, Nat.reduceEqDiff, reduceIte, Int.reduceBNe, Int.reduceBEq]
        simp only [typR, useR, okR, inB_int 1 (carry k i) (show (0 : Int) ≤ i ∧ (i : Int) < (6 : Nat) by omega) rfl, atL_g (carry k i) hi, carry_g k i hi, stR3_g (carry k i) hi, bR, Nat.reduceEqDiff, reduceIte, Int.reduceBNe, Int.reduceBEq]
        refine .done (hK _ ?_); clear hK K; simp only [thenQ, blockQ]
        refine ⟨(k + 1, os2), ⟨by simp only; omega, h2⟩, by simp only; omega, ?_⟩
        simp only
        rw [wrap_id _ (by omega) (by omega), carry_up k hk i hi hj h4]
        refine Sub.slots ?_ (fun n => ?_)
        · simp [subT, look_cons]
        · simp only [lookO_cons]; (repeat' split) <;> simp_all
    · have he : k = 15624 := by
        refine (dgs_fours k hk).1 ?_
        simpa using h
      subst he
      refine AW.exit ?_; simp only [thenQ, blockQ, reduceIte, Nat.reduceEqDiff]
      rw [retO_normal]
      exact ⟨os2, [], heldG (ow := [(2, _), (3, _)]) g2 own23, trivial, rfl, .inl h2⟩
  · have g2 := hIx os2 h2
    simp only [List.cons_append, List.nil_append]
    simp only [typR, useR, okR, bR, Nat.reduceEqDiff, reduceIte, Int.reduceBNe, Int.reduceBEq]
    refine .done (hK _ ?_); clear hK K; simp only [thenQ, blockQ]
    refine AW.ite ?_
    simp only [condQ, bR, Nat.reduceEqDiff, reduceIte, Int.reduceBNe, Int.reduceBEq]
    refine ⟨fun h => ?_, fun h => ?_⟩
    · cases h
    refine AW.exit ?_; simp only [thenQ, blockQ, reduceIte, Nat.reduceEqDiff]
    rw [retO_normal]
    exact ⟨os2, [], heldG (ow := [(2, _), (3, _)]) g2 own23, trivial, rfl, .inr h2⟩
theorem F101 : Ctr Try.prog 101 [] (.func 121 []) := by
  refine Ctr.mk' Try.func101 ca101 cc101 cr101 (Nat.le_of_ble_eq_true rfl) (fun hwf W0 D0 E1 => ?_)
  simp only [c101, r101, idx, Nat.zero_add, Nat.reduceAdd]
  refine AW.seq (AW.reg cd101_0 fun K hK => ?_)
  simp only [g101_0, bR, Nat.reduceEqDiff, reduceIte, Int.reduceBNe, Int.reduceBEq]
  refine .done (hK _ ?_); clear hK K; simp only [thenQ, blockQ]
  refine AW.seq (AW.reg cd101_1 fun K hK => ?_)
  simp only [g101_1, bR, Nat.reduceEqDiff, reduceIte, Int.reduceBNe, Int.reduceBEq]
  refine .done (hK _ ?_); clear hK K; simp only [thenQ, blockQ]
  refine AW.ret ?_
  simp only [blockQ, thenQ, bR, Nat.reduceEqDiff, reduceIte, Int.reduceBNe, Int.reduceBEq]
end Go.Proofs.Ytkjkbpgdpnapfaa

/-
  FUNCTIONS OF mark BY CONTRACT: Next.
-/
namespace Go.Proofs.Ytkjkbpgdpnapfaa
open Go Go.Abs
open Go.Abs.Enc (enc)
def blocked (m : Marks) (k : Arr 6 Int) : Bool := m.given.any fun g => tooNear m g.mark k
def nextK (m : Marks) : Option Nat := (List.range 15625).find? fun k => !blocked m (dgs k)
def nextOf (m : Marks) : Arr 6 Int × Int := if okM m then (if m.given.length = 40 then (zero6, 16) else match nextK m with
  | some k => (dgs k, 0)
  | none => (zero6, 16)) else (zero6, 13)
theorem find_range (p : Nat → Bool) {n k : Nat} (hk : k < n) (h1 : p k = true) (h2 : ∀ j, j < k → p j = false) : (List.range n).find? p = some k := by
  rw [List.find?_range_eq_some]
  exact ⟨h1, by simpa using hk, fun j hj => by simp [h2 j hj]⟩
theorem find_range_none (p : Nat → Bool) {n : Nat} (h : ∀ k, k < n → p k = false) : (List.range n).find? p = none := by
  rw [List.find?_eq_none]
  intro k hk
  simp [h k (by simpa using hk)]
theorem okMark_dgs (k : Nat) : okMark (dgs k) = true := by
  simp only [okMark, List.all_eq_true, List.mem_range]
  intro i hi
  have : (dgs k).g i = dg k i := by
    match i, hi with
    | 0, _ | 1, _ | 2, _ | 3, _ | 4, _ | 5, _ => rfl
    | n + 6, h => exact absurd h (by omega)
  rw [this]
  have := dg_in k i
  simp [inR, this.1, this.2]
def nx (m : Marks) (r : Arr 6 Int) (e : Int) : List (Nat × AO) := [(1000001, .box (enc m)), (1000002, .box (enc r)), (1000003, .box (.int .i64 e))]
theorem nx_good (m : Marks) (r : Arr 6 Int) (e : Int) (m' : Marks) (r' : Arr 6 Int) (e' : Int) : GoodO (nx m r e) (nx m' r' e') := by
  refine ⟨fun n => by simp only [nx, isIn, lookO]; (repeat' split) <;> rfl, fun n x h => ?_, fun n h => ?_⟩
  · simp only [nx, lookO] at h
    repeat' split at h
    all_goals first | (cases h; done) | (simp only [Option.some.injEq] at h; subst h; exact ⟨by simp [AO.only, e_only, AV.only], rfl⟩)
  · simp only [nx, isIn, lookO] at h
    repeat' split at h
    all_goals first | omega | (simp at h; done)
theorem stR3_i {A : AState} {n : Nat} {b : AV} {v u : Int} {rest : List G} : stR3 A none n [] b (.int .i64 v) rest (some (.int .i64 u)) = aops rest (A.setO n (.box (.int .i64 v))) := by
  rw [stR3_ok (s := none) (v := .int .i64 v) (old := .int .i64 u) rfl rfl rfl, setAt_nil]
theorem stR3_6 {A : AState} {n : Nat} {b : AV} {v u : Arr 6 Int} {rest : List G} : stR3 A (some 6) n [] b (enc v) rest (some (enc u)) = aops rest (A.setO n (.box (enc v))) := by
  rw [stR3_ok (e_isVal _) (by rw [e_okS]; rfl) ((e_sh _).trans (e_sh _).symm), setAt_nil]
theorem stR3_G {A : AState} {n : Nat} {b : AV} {v u : Given} {rest : List G} : stR3 A (some 7) n [] b (enc v) rest (some (enc u)) = aops rest (A.setO n (.box (enc v))) := by
  rw [stR3_ok (e_isVal _) (by rw [e_okS]; rfl) ((e_sh _).trans (e_sh _).symm), setAt_nil]
theorem blocked_at {m : Marks} {k : Arr 6 Int} {i : Nat} (hi : i < m.given.length) (h : tooNear m (gv m i).mark k = true) : blocked m k = true := by
  simp only [blocked, List.any_eq_true]
  exact ⟨m.given[i], List.getElem_mem hi, by rw [gv_eq hi]; exact h⟩
theorem blocked_no {m : Marks} {k : Arr 6 Int} (h : ∀ i, i < m.given.length → tooNear m (gv m i).mark k = false) : blocked m k = false := by
  rw [blocked, List.any_eq_false]
  intro g hg
  obtain ⟨i, hi, rfl⟩ := List.getElem_of_mem hg
  rw [gv_eq hi, h i hi]; simp
theorem F55 (m : Marks) : Ctr Try.prog 55 [enc m] (.tuple [enc (nextOf m).1, enc (nextOf m).2]) := by
  refine Ctr.mk' Try.func55 ca55 cc55 cr55 (Nat.le_of_ble_eq_true rfl) (fun hwf W0 D0 E1 => ?_)
  simp only [c55, r55, idx, Nat.zero_add, Nat.reduceAdd]
  refine AW.seq (AW.reg cd55_0 fun K hK => ?_)
  simp only [g55_0, bR, Nat.reduceEqDiff, reduceIte, Int.reduceBNe, Int.reduceBEq]
  simp only [e_zero6, bR, Nat.reduceEqDiff, reduceIte, Int.reduceBNe, Int.reduceBEq]
  refine .done (hK _ ?_); clear hK K; simp only [thenQ, blockQ]
  refine AW.scope ?_
  refine AW.seq ?_
  refine AW.seq (AW.reg cd55_1 fun K hK => ?_)
  simp only [g55_1, bR, Nat.reduceEqDiff, reduceIte, Int.reduceBNe, Int.reduceBEq]
  simp only [typR, useR, okR, e_fin, bR, Nat.reduceEqDiff, reduceIte, Int.reduceBNe, Int.reduceBEq]
  refine .flat _ (F47 m) rfl ?_
  generalize hm : okM m = bm
  cases bm
  · try simp only [typR, useR, okR, e_fin, bR, Nat.reduceEqDiff, reduceIte, Int.reduceBNe, Int.reduceBEq]
    refine .done (hK _ ?_); clear hK K; simp only [thenQ, blockQ]
    refine AW.seq (AW.reg cd55_2 fun K hK => ?_)
    simp only [g55_2, bR, Nat.reduceEqDiff, reduceIte, Int.reduceBNe, Int.reduceBEq]
    refine .done (hK _ ?_); clear hK K; simp only [thenQ, blockQ]
    refine AW.ite ?_
    simp only [condQ, bR, Nat.reduceEqDiff, reduceIte, Int.reduceBNe, Int.reduceBEq]
    refine ⟨fun h => ?_, fun h => ?_⟩
    · refine AW.seq (AW.reg cd55_3 fun K hK => ?_)
      simp only [g55_3, bR, Nat.reduceEqDiff, reduceIte, Int.reduceBNe, Int.reduceBEq]
      simp only [setParts, e_zero6, bR, Nat.reduceEqDiff, reduceIte, Int.reduceBNe, Int.reduceBEq]
      simp only [stR3_6, stR3_i, bR, Nat.reduceEqDiff, reduceIte, Int.reduceBNe, Int.reduceBEq]
      refine .done (hK _ ?_); clear hK K; simp only [thenQ, blockQ]
      refine AW.ret ?_
      simp only [scopeQ, thenQ, blockQ, typR, e_fin, setAt_nil, e_int, bR, Nat.reduceEqDiff, reduceIte, Int.reduceBNe, Int.reduceBEq]
      simp [nextOf, hm, e_int]
    · cases h
  try simp only [typR, useR, okR, e_fin, bR, Nat.reduceEqDiff, reduceIte, Int.reduceBNe, Int.reduceBEq]
  refine .done (hK _ ?_); clear hK K; simp only [thenQ, blockQ]
  refine AW.seq (AW.reg cd55_2 fun K hK => ?_)
  simp only [g55_2, bR, Nat.reduceEqDiff, reduceIte, Int.reduceBNe, Int.reduceBEq]
  refine .done (hK _ ?_); clear hK K; simp only [thenQ, blockQ]
  refine AW.ite ?_
  simp only [condQ, bR, Nat.reduceEqDiff, reduceIte, Int.reduceBNe, Int.reduceBEq]
  refine ⟨fun h => ?_, fun h => ?_⟩
  · cases h
  refine AW.skip ?_; simp only [thenQ, blockQ, reduceIte, Nat.reduceEqDiff]
  refine AW.seq ?_
  refine AW.seq (AW.reg cd55_4 fun K hK => ?_)
  simp only [g55_4, bR, Nat.reduceEqDiff, reduceIte, Int.reduceBNe, Int.reduceBEq]
  try simp only [typR, useR, okR, e_fin, bR, Nat.reduceEqDiff, reduceIte, Int.reduceBNe, Int.reduceBEq]
  refine .done (hK _ ?_); clear hK K; simp only [thenQ, blockQ]
  refine AW.ite ?_
  simp only [condQ, bR, Nat.reduceEqDiff, reduceIte, Int.reduceBNe, Int.reduceBEq]
  refine ⟨fun h => ?_, fun h => ?_⟩
  · have h40 : m.given.length = 40 := by simp at h; omega
    refine AW.seq (AW.reg cd55_5 fun K hK => ?_)
    simp only [g55_5, bR, Nat.reduceEqDiff, reduceIte, Int.reduceBNe, Int.reduceBEq]
    simp only [setParts, e_zero6, bR, Nat.reduceEqDiff, reduceIte, Int.reduceBNe, Int.reduceBEq]
    simp only [stR3_6, stR3_i, bR, Nat.reduceEqDiff, reduceIte, Int.reduceBNe, Int.reduceBEq]
    refine .done (hK _ ?_); clear hK K; simp only [thenQ, blockQ]
    refine AW.ret ?_
    simp only [scopeQ, thenQ, blockQ, typR, e_fin, setAt_nil, e_int, bR, Nat.reduceEqDiff, reduceIte, Int.reduceBNe, Int.reduceBEq]
    simp [nextOf, hm, h40, e_int]
  have h40 : m.given.length ≠ 40 := by simp at h; omega
  have hlen := okM_len hm
  refine AW.skip ?_; simp only [thenQ, blockQ, reduceIte, Nat.reduceEqDiff]
  refine AW.seq (AW.label ?_)
  simp only [thenQ, blockQ]
  refine AW.seq ?_
  refine AW.seq (AW.reg cd55_6 fun K hK => ?_)
  simp only [g55_6, bR, Nat.reduceEqDiff, reduceIte, Int.reduceBNe, Int.reduceBEq]
  try simp only [typR, useR, okR, e_fin, bR, Nat.reduceEqDiff, reduceIte, Int.reduceBNe, Int.reduceBEq]
  refine .lead _ F101 ?_
  simp only [bR, Nat.reduceEqDiff, reduceIte, Int.reduceBNe, Int.reduceBEq]
  refine .done (hK _ ?_); clear hK K; simp only [thenQ, blockQ]
  refine AW.block (AW.rfun (osb0 := nx m zero6 0) (tsR := [(1, .ptr 1000001 []), (2, .ptr 1000002 []), (3, .ptr 1000003 [])]) (ρ := [(1999999, 999999), (1000001, 1), (1000002, 2), (1000003, 3)])
    (fun k os => os = nx m zero6 0 ∧ ∀ j, j < k → blocked m (dgs j) = true)
    (fun e os => e = none ∧ ∃ k, k < 15625 ∧ os = nx m (dgs k) 0 ∧ blocked m (dgs k) = false ∧ ∀ j, j < k → blocked m (dgs j) = true)
    rfl (Nat.le_of_ble_eq_true rfl) ?_ rfl ca121 F121 (fun _ => rfl) ?_ ?_ rfl (fun o => ⟨?_, ?_⟩) ?_ ?_ ?_ ⟨rfl, fun j h => by omega⟩ ?_ ?_ ?_)
  · simp only [bR, Nat.reduceEqDiff, reduceIte, Int.reduceBNe, Int.reduceBEq]
  · simp [lookO]
  · simp [nx, isIn, lookO]
  · intro n x hx
    simp only [recd, nx, lookO] at hx
    repeat' split at hx
    all_goals first | (cases hx; done) | (subst_vars; simp only [Option.some.injEq] at hx; subst hx; simp [recd, nx, rnm, lookO, AO.ren, AV.ren, e_ren, AO.only, AV.only, e_only, AO.fix, e_int])
  · intro a b ha hb
    simp only [recd, nx, isIn, lookO] at ha hb
    repeat' split at ha
    all_goals first | (simp at ha; done) | skip
    all_goals (repeat' split at hb)
    all_goals first | (simp at hb; done) | (subst_vars; simp [rnm])
  · simp [slotsOk, look_cons, AV.ren, rnm, AV.only, nx, isIn, lookO]
  · rintro k os ⟨rfl, _⟩; exact nx_good ..
  · rintro e os ⟨_, k, _, rfl, _⟩; exact nx_good ..
  · rintro k osb hk ⟨rfl, hall⟩ W1 D1 E1 l o1 o2
    simp only [putsT, recd, nx]
    refine AW.reg cd55_7 fun K hK => ?_
    simp only [g55_7, bR, Nat.reduceEqDiff, reduceIte, Int.reduceBNe, Int.reduceBEq]
    simp only [e_zero6, stR3_6, bR, Nat.reduceEqDiff, reduceIte, Int.reduceBNe, Int.reduceBEq]
    refine .done (hK _ ?_); clear hK K; simp only [thenQ, blockQ]
    refine ⟨by simp [mkA, lookO], ?_⟩
    simp only [bR, Nat.reduceEqDiff, reduceIte, Int.reduceBNe, Int.reduceBEq]
    refine AW.block (AW.seq ?_)
    refine AW.seq (AW.reg cd55_8 fun K hK => ?_)
    simp only [g55_8, bR, Nat.reduceEqDiff, reduceIte, Int.reduceBNe, Int.reduceBEq]
    try simp only [typR, useR, okR, e_fin, bR, Nat.reduceEqDiff, reduceIte, Int.reduceBNe, Int.reduceBEq]
    refine .done (hK _ ?_); clear hK K; simp only [thenQ, blockQ]
    refine AW.block (AW.loop (fun i : Nat => mkA [(1, .ptr 1000001 []), (2, .ptr 1000002 []), (3, .ptr 1000003 []), (5, .ptr 5 []), (22, enc m.given), (23, .int .i64 m.given.length), (24, .int .i64 i)]
      [(1999999, .opq o2), (5, .box (enc (dgs k))), (1000001, .box (enc m)), (1000002, .box (enc zero6)), (1000003, .box (.int .i64 0))]) (fun i => i ≤ m.given.length ∧ ∀ j, j < i → tooNear m (gv m j).mark (dgs k) = false) (fun i => m.given.length - i) 0 ⟨by omega, fun j h => by omega⟩ ?_ ?_)
    · refine Sub.of_lists ?_ ?_ ?_ ?_ <;> simp [subT, subO, onlyT, onlyO, isIn, look_cons, lookO_cons, lookO_nil, AV.only, AV.onlys, AO.only, onlys_map, onlys_append, e_only, e_int, e_bool]
    rintro i ⟨hi, hj⟩
    refine AW.seq (AW.reg cd55_9 fun K hK => ?_)
    simp only [g55_9, bR, Nat.reduceEqDiff, reduceIte, Int.reduceBNe, Int.reduceBEq]
    refine .done (hK _ ?_); clear hK K; simp only [thenQ, blockQ]
    refine AW.seq ?_
    refine AW.ite ?_
    simp only [condQ, bR, Nat.reduceEqDiff, reduceIte, Int.reduceBNe, Int.reduceBEq]
    refine ⟨fun h => ?_, fun h => ?_⟩
    · have hlt : i < m.given.length := by simp at h; omega
      refine AW.skip ?_; simp only [thenQ, blockQ, reduceIte, Nat.reduceEqDiff]
      refine AW.seq (AW.block ?_)
      refine AW.seq (AW.reg cd55_10 fun K hK => ?_)
      simp only [g55_10, bR, Nat.reduceEqDiff, reduceIte, Int.reduceBNe, Int.reduceBEq]
      try simp only [typR, useR, okR, e_fin, bR, Nat.reduceEqDiff, reduceIte, Int.reduceBNe, Int.reduceBEq]
      simp only [isE_gv hlt, bR, Nat.reduceEqDiff, reduceIte, Int.reduceBNe, Int.reduceBEq]
      try simp only [typR, useR, okR, e_fin, bR, Nat.reduceEqDiff, reduceIte, Int.reduceBNe, Int.reduceBEq]
      simp only [e_g0, stR3_G, bR, Nat.reduceEqDiff, reduceIte, Int.reduceBNe, Int.reduceBEq]
      refine .done (hK _ ?_); clear hK K; simp only [thenQ, blockQ]
      refine AW.seq ?_
      refine AW.reg cd55_11 fun K hK => ?_
      simp only [g55_11, bR, Nat.reduceEqDiff, reduceIte, Int.reduceBNe, Int.reduceBEq]
      try simp only [typR, useR, okR, e_fin, bR, Nat.reduceEqDiff, reduceIte, Int.reduceBNe, Int.reduceBEq]
      refine .flat _ (F87 m.wear (gv m i).mark (dgs k) (by rw [← gv_eq hlt]; exact okM_mark hm _ (List.getElem_mem hlt)) (okMark_dgs k)) rfl ?_
      try simp only [typR, useR, okR, e_fin, bR, Nat.reduceEqDiff, reduceIte, Int.reduceBNe, Int.reduceBEq]
      refine .done (hK _ ?_); clear hK K; simp only [thenQ, blockQ]
      have hdec : decide ((cnt (apartAt m.wear (gv m i).mark (dgs k)) 6 : Int) ≤ IntKind.i64.wrap (2 * m.fls)) = tooNear m (gv m i).mark (dgs k) := rfl
      refine AW.ite ?_
      simp only [condQ, bR, Nat.reduceEqDiff, reduceIte, Int.reduceBNe, Int.reduceBEq]
      refine ⟨fun h => ?_, fun h => ?_⟩
      · rw [hdec] at h
        refine AW.exit ?_; simp only [thenQ, blockQ, reduceIte, Nat.reduceEqDiff]
        refine ⟨nx m zero6 0, ?_, rfl, fun j hj1 => ?_⟩
        · intro n x hx
          simp only [recd, nx, lookO] at hx
          (repeat' split at hx) <;> first
            | (cases hx; done)
            | (subst_vars; simp only [Option.some.injEq] at hx; subst hx; simp [nx, recd, mkA, lookO, AO.only, AV.only, e_only, AO.fix])
        · rcases Nat.lt_or_ge j k with hlt' | hge
          · exact hall j hlt'
          · have : j = k := by omega
            subst this
            exact blocked_at hlt h
      · rw [hdec] at h
        refine AW.skip ?_; simp only [thenQ, blockQ, reduceIte, Nat.reduceEqDiff]
        refine AW.reg cd55_12 fun K hK => ?_
        simp only [g55_12, bR, Nat.reduceEqDiff, reduceIte, Int.reduceBNe, Int.reduceBEq]
        refine .done (hK _ ?_); clear hK K; simp only [thenQ, blockQ]
        refine ⟨i + 1, ⟨by omega, fun j hj1 => ?_⟩, by omega, ?_⟩
        · rcases Nat.lt_or_ge j i with hlt' | hge
          · exact hj j hlt'
          · have : j = i := by omega
            subst this; exact h
        · rw [wrap_id _ (by omega) (by omega)]
          refine Sub.of_lists ?_ ?_ ?_ ?_ <;> simp [subT, subO, onlyT, onlyO, isIn, look_cons, lookO_cons, lookO_nil, AV.only, AV.onlys, AO.only, onlys_map, onlys_append, e_only, e_int, e_bool]
    · have he : i = m.given.length := by simp at h; omega
      subst he
      refine AW.exit ?_; simp only [thenQ, blockQ, reduceIte, Nat.reduceEqDiff]
      refine AW.seq (AW.reg cd55_13 fun K hK => ?_)
      simp only [g55_13, bR, Nat.reduceEqDiff, reduceIte, Int.reduceBNe, Int.reduceBEq]
      simp only [stR3_6, stR3_i, typR, useR, okR, bR, Nat.reduceEqDiff, reduceIte, Int.reduceBNe, Int.reduceBEq]
      refine .done (hK _ ?_); clear hK K; simp only [thenQ, blockQ]
      refine AW.ret ?_
      simp only [thenQ, blockQ]
      refine ⟨nx m (dgs k) 0, ?_, rfl, k, hk, rfl, blocked_no hj, hall⟩
      intro n x hx
      simp only [recd, nx, lookO] at hx
      (repeat' split at hx) <;> first
        | (cases hx; done)
        | (subst_vars; simp only [Option.some.injEq] at hx; subst hx; simp [nx, recd, mkA, lookO, AO.only, AV.only, e_only, AO.fix])
  · rintro os ⟨rfl, hall⟩
    simp only [blockQ, thenQ, nx, renR, e_ren, List.cons_append, List.nil_append, bR, Nat.reduceEqDiff, reduceIte, Int.reduceBNe, Int.reduceBEq]
    refine AW.seq (AW.reg cd55_14 fun K hK => ?_)
    simp only [g55_14, bR, Nat.reduceEqDiff, reduceIte, Int.reduceBNe, Int.reduceBEq]
    simp only [setParts, e_zero6, stR3_6, stR3_i, bR, Nat.reduceEqDiff, reduceIte, Int.reduceBNe, Int.reduceBEq]
    refine .done (hK _ ?_); clear hK K; simp only [thenQ, blockQ]
    refine AW.ret ?_
    simp only [scopeQ, thenQ, blockQ, typR, e_fin, setAt_nil, e_int, bR, Nat.reduceEqDiff, reduceIte, Int.reduceBNe, Int.reduceBEq]
    have hn : nextK m = none := find_range_none _ fun k hk => by simp [hall k hk]
    simp [nextOf, hm, h40, hn, e_int]
  · rintro e os ⟨rfl, k, hk, rfl, hb, hall⟩
    simp only [exitOf, blockQ, thenQ, scopeQ, nx, renR, e_ren, List.cons_append, List.nil_append, typR, e_fin, bR, Nat.reduceEqDiff, reduceIte, Int.reduceBNe, Int.reduceBEq]
    have hn : nextK m = some k := find_range _ hk (by simp [hb]) fun j hj => by simp [hall j hj]
    simp [nextOf, hm, h40, hn, e_int]
end Go.Proofs.Ytkjkbpgdpnapfaa

/-
  FUNCTIONS BY CONTRACT: of mark: settles; of the law: its book.
-/
namespace Go.Proofs.Ytkjkbpgdpnapfaa
open Go Go.Abs
open Go.Abs.Enc (enc)
def a6 (a b c d e f : Int) : Arr 6 Int := ⟨[a, b, c, d, e, f], rfl⟩
def a5 (a b c d e : Int) : Arr 5 Int := ⟨[a, b, c, d, e], rfl⟩
def bookM : Marks := ⟨a5 1 3 4 24 24, 0, [⟨1, a6 0 0 0 0 0 0⟩, ⟨2, a6 2 0 0 0 0 0⟩, ⟨3, a6 3 0 0 0 0 2⟩]⟩
theorem F107 (w : Arr 5 Int) (g h : Given) (k : Nat) (hk : k < 6) (hg : okMark g.mark = true) (hh : okMark h.mark = true) : Ctr Try.prog 107 (enc (k : Int) :: [.ref (enc w), .ref (enc g), .ref (enc h)]) (enc (apartAt w g.mark h.mark k)) := by
  refine Ctr.mk' Try.func107 ca107 cc107 cr107 (Nat.le_of_ble_eq_true rfl) (fun hwf W0 D0 E1 => ?_)
  simp only [c107, r107, idx, Nat.zero_add, Nat.reduceAdd]
  have h1 := okMark_at hg hk
  have h2 := okMark_at hh hk
  refine AW.seq (AW.reg cd107_0 fun K hK => ?_)
  simp only [g107_0, bR, Nat.reduceEqDiff, reduceIte, Int.reduceBNe, Int.reduceBEq]
  refine .done (hK _ ?_); clear hK K; simp only [thenQ, blockQ]
  refine AW.seq (AW.reg cd107_1 fun K hK => ?_)
  simp only [g107_1, bR, Nat.reduceEqDiff, reduceIte, Int.reduceBNe, Int.reduceBEq]
  try simp only [typR, useR, okR, e_fin, bR, Nat.reduceEqDiff, reduceIte, Int.reduceBNe, Int.reduceBEq]
  refine .flat _ (F77 w g.mark k hk h1.1 h1.2) rfl ?_
  try simp only [typR, useR, okR, e_fin, bR, Nat.reduceEqDiff, reduceIte, Int.reduceBNe, Int.reduceBEq]
  refine .flat _ (F77 w h.mark k hk h2.1 h2.2) rfl ?_
  try simp only [typR, useR, okR, e_fin, bR, Nat.reduceEqDiff, reduceIte, Int.reduceBNe, Int.reduceBEq]
  refine .flat _ (F78 _ _) rfl ?_
  try simp only [typR, useR, okR, e_fin, bR, Nat.reduceEqDiff, reduceIte, Int.reduceBNe, Int.reduceBEq]
  refine .done (hK _ ?_); clear hK K; simp only [thenQ, blockQ]
  refine AW.ret ?_
  simp only [blockQ, thenQ, bR, Nat.reduceEqDiff, reduceIte, Int.reduceBNe, Int.reduceBEq]
  simp only [apartAt, bne, Bool.not_not]
theorem bld5 (a b c d e : Int) : setParts [.int .i64 0, .int .i64 0, .int .i64 0, .int .i64 0, .int .i64 0] [(0, .int .i64 a), (1, .int .i64 b), (2, .int .i64 c), (3, .int .i64 d), (4, .int .i64 e)] = some [.int .i64 a, .int .i64 b, .int .i64 c, .int .i64 d, .int .i64 e] := rfl
theorem bld6 (a b c d e f : Int) : setParts [.int .i64 0, .int .i64 0, .int .i64 0, .int .i64 0, .int .i64 0, .int .i64 0] [(0, .int .i64 a), (1, .int .i64 b), (2, .int .i64 c), (3, .int .i64 d), (4, .int .i64 e), (5, .int .i64 f)] = some [.int .i64 a, .int .i64 b, .int .i64 c, .int .i64 d, .int .i64 e, .int .i64 f] := rfl
theorem e_a5 (a b c d e : Int) : AV.agg [.int .i64 a, .int .i64 b, .int .i64 c, .int .i64 d, .int .i64 e] = enc (a5 a b c d e) := rfl
theorem e_a6 (a b c d e f : Int) : AV.agg [.int .i64 a, .int .i64 b, .int .i64 c, .int .i64 d, .int .i64 e, .int .i64 f] = enc (a6 a b c d e f) := rfl
theorem bldG0 (o : Int) : setParts [.int .i64 0, enc (a6 0 0 0 0 0 0)] [(0, .int .i64 o)] = some [.int .i64 o, enc (a6 0 0 0 0 0 0)] := rfl
theorem setParts_cons {zs : List AV} {i : Nat} {v z : AV} {rest : List (Nat × AV)} (h : zs[i]? = some z) (h1 : v.isVal = true) (h2 : v.size = z.size) : setParts zs ((i, v) :: rest) = setParts (zs.set i v) rest := by
  simp only [setParts, h]; rw [if_pos ⟨h1, h2⟩]
theorem bldG (o : Int) (m : Arr 6 Int) : setParts [.int .i64 0, enc (a6 0 0 0 0 0 0)] [(0, .int .i64 o), (1, enc m)] = some [.int .i64 o, enc m] := by
  have h2 : ((enc m : AV).isVal = true ∧ (enc m : AV).size = (enc (a6 0 0 0 0 0 0)).size) := ⟨e_isVal _, by rw [e_size, e_size]⟩
  have h1 : ((AV.int .i64 o).isVal = true ∧ (AV.int .i64 o).size = (AV.int .i64 0).size) := ⟨rfl, rfl⟩
  rw [setParts_cons rfl h1.1 h1.2, setParts_cons rfl h2.1 h2.2]; rfl
theorem bldM (w : Arr 5 Int) (l : List Given) : setParts [enc (a5 0 0 0 0 0), .int .i64 0, .nils 7] [(0, enc w), (2, enc l)] = some [enc w, .int .i64 0, enc l] := by
  have h1 : ((enc w : AV).isVal = true ∧ (enc w : AV).size = (enc (a5 0 0 0 0 0)).size) := ⟨e_isVal _, by rw [e_size, e_size]⟩
  have h2 : ((enc l : AV).isVal = true ∧ (enc l : AV).size = (AV.nils 7).size) := ⟨e_isVal _, by rw [e_size]; rfl⟩
  rw [setParts_cons rfl h1.1 h1.2, setParts_cons rfl h2.1 h2.2]; rfl
theorem e_G (o : Int) (m : Arr 6 Int) : AV.agg [.int .i64 o, enc m] = enc (⟨o, m⟩ : Given) := rfl
theorem e_M (w : Arr 5 Int) (n : Int) (l : List Given) : AV.agg [enc w, .int .i64 n, enc l] = enc (⟨w, n, l⟩ : Marks) := rfl
theorem bsG3 (a b c : Given) : bsE 7 (some [enc a, enc b, enc c]) = some (enc [a, b, c]) := (bsE_enc (α := Given) 7 rfl : bsE 7 (some ([a, b, c].map enc)) = _)
theorem F82 : Ctr Try.prog 82 [] (enc bookM) := by
  refine Ctr.mk' Try.func82 ca82 cc82 cr82 (Nat.le_of_ble_eq_true rfl) (fun hwf W0 D0 E1 => ?_)
  simp only [c82, r82, idx, Nat.zero_add, Nat.reduceAdd]
  refine AW.seq (AW.reg cd82_0 fun K hK => ?_)
  simp only [g82_0, bR, Nat.reduceEqDiff, reduceIte, Int.reduceBNe, Int.reduceBEq]
  refine .done (hK _ ?_); clear hK K; simp only [thenQ, blockQ]
  refine AW.seq (AW.reg cd82_1 fun K hK => ?_)
  simp only [g82_1, bR, Nat.reduceEqDiff, reduceIte, Int.reduceBNe, Int.reduceBEq]
  simp only [bld5, bld6, bldG0, bldG, bldM, bsG3, e_a5, e_a6, e_G, e_M, e_fin, bR, Nat.reduceEqDiff, reduceIte, Int.reduceBNe, Int.reduceBEq]
  rw [stR3_ok (e_isVal _) (by rw [e_okS]; rfl) ((e_sh _).trans rfl)]
  simp only [setAt_nil, bR, Nat.reduceEqDiff, reduceIte, Int.reduceBNe, Int.reduceBEq]
  refine .done (hK _ ?_); clear hK K; simp only [thenQ, blockQ]
  refine AW.ret ?_
  simp only [blockQ, thenQ, bR, Nat.reduceEqDiff, reduceIte, Int.reduceBNe, Int.reduceBEq]
  simp only [typR, e_fin, bR, Nat.reduceEqDiff, reduceIte, Int.reduceBNe, Int.reduceBEq]
  rfl
end Go.Proofs.Ytkjkbpgdpnapfaa

/-
  FUNCTIONS OF mark BY CONTRACT: settles.
-/
namespace Go.Proofs.Ytkjkbpgdpnapfaa
open Go Go.Abs
open Go.Abs.Enc (enc)
def gl (l : List Given) (i : Nat) : Given := l.getD i g0
theorem isE_gl {A : AState} {l : List Given} {i : Nat} (h : i < l.length) : isE A 7 (i : Int) (enc l) = some (.ref (enc (gl l i))) := by
  rw [isE_nat 7 h rfl]; simp [gl, List.getD_eq_getElem?_getD, h]
theorem gl_eq {l : List Given} {i : Nat} (h : i < l.length) : l[i] = gl l i := by simp [gl, List.getD_eq_getElem?_getD, h]
theorem gl_take {l : List Given} {i j : Nat} (h : j < i) (hi : i ≤ l.length) : gl (l.take i) j = gl l j := by
  simp [gl, List.getD_eq_getElem?_getD, List.getElem?_take, h]
/-- At these places any two of the given marks stand apart. -/
def apartIn (w : Arr 5 Int) (places : List Int) (g h : Given) : Bool := places.any fun k => apartAt w g.mark h.mark k.toNat
def settledAt (w : Arr 5 Int) (l : List Given) (places : List Int) (i : Nat) : Bool := (List.range i).all fun j => apartIn w places (gl l i) (gl l j)
def settled (w : Arr 5 Int) (l : List Given) (places : List Int) : Bool := (List.range l.length).all (settledAt w l places)
theorem F67 (w : Arr 5 Int) (l : List Given) (places : List Int) (hl : ∀ g ∈ l, okMark g.mark = true) (hp : ∀ k ∈ places, 0 ≤ k ∧ k < 6) : Ctr Try.prog 67 [enc w, enc l, enc places] (enc (settled w l places)) := by
  refine Ctr.mk' Try.func67 ca67 cc67 cr67 (Nat.le_of_ble_eq_true rfl) (fun hwf W0 D0 E1 => ?_)
  simp only [c67, r67, idx, Nat.zero_add, Nat.reduceAdd]
  have hlen : l.length ≤ maxLen := ((wf_list l).1 hwf.2.1).1
  simp only [maxLen] at hlen
  have hok : ∀ i, i < l.length → okMark (gl l i).mark = true := fun i hi => by rw [← gl_eq hi]; exact hl _ (List.getElem_mem hi)
  refine AW.seq (AW.reg cd67_0 fun K hK => ?_)
  simp only [g67_0, bR, Nat.reduceEqDiff, reduceIte, Int.reduceBNe, Int.reduceBEq]
  refine .done (hK _ ?_); clear hK K; simp only [thenQ, blockQ]
  refine AW.seq ?_
  refine AW.seq (AW.reg cd67_1 fun K hK => ?_)
  simp only [g67_1, bR, Nat.reduceEqDiff, reduceIte, Int.reduceBNe, Int.reduceBEq]
  try simp only [typR, useR, okR, e_fin, bR, Nat.reduceEqDiff, reduceIte, Int.reduceBNe, Int.reduceBEq]
  refine .done (hK _ ?_); clear hK K; simp only [thenQ, blockQ]
  refine AW.block (AW.loop (fun i : Nat => mkA [(1, enc l), (2, enc places), (3, .ptr 3 []), (11, enc l), (12, .int .i64 l.length), (13, .int .i64 i)] [(3, .box (enc w))]) (fun i => i ≤ l.length ∧ ∀ j, j < i → settledAt w l places j = true) (fun i => l.length - i) 0 ⟨by omega, fun k h => by omega⟩ ?_ (fun i hi => ?_))
  · refine Sub.of_lists ?_ ?_ ?_ ?_ <;> simp [subT, subO, onlyT, onlyO, isIn, look_cons, lookO_cons, lookO_nil, AV.only, AV.onlys, AO.only, onlys_map, onlys_append, e_only, e_int, e_bool]
  refine AW.seq (AW.reg cd67_2 fun K hK => ?_)
  simp only [g67_2, bR, Nat.reduceEqDiff, reduceIte, Int.reduceBNe, Int.reduceBEq]
  refine .done (hK _ ?_); clear hK K; simp only [thenQ, blockQ]
  refine AW.seq ?_
  refine AW.ite ?_
  simp only [condQ, bR, Nat.reduceEqDiff, reduceIte, Int.reduceBNe, Int.reduceBEq]
  refine ⟨fun h => ?_, fun h => ?_⟩
  case refine_2.refine_2 =>
    have hge : i = l.length := by simp at h; omega
    subst hge
    refine AW.exit ?_; simp only [thenQ, blockQ, reduceIte, Nat.reduceEqDiff]
    refine AW.seq (AW.reg cd67_11 fun K hK => ?_)
    simp only [g67_11, bR, Nat.reduceEqDiff, reduceIte, Int.reduceBNe, Int.reduceBEq]
    refine .done (hK _ ?_); clear hK K; simp only [thenQ, blockQ]
    refine AW.ret ?_
    simp only [blockQ, thenQ, bR, Nat.reduceEqDiff, reduceIte, Int.reduceBNe, Int.reduceBEq]
    rw [settled, all_true hi.2]
  have hlt : i < l.length := by simpa using h
  have bad : settledAt w l places i = false → settled w l places = false := fun h => all_false i hlt h
  refine AW.skip ?_; simp only [thenQ, blockQ, reduceIte, Nat.reduceEqDiff]
  refine AW.seq (AW.block ?_)
  refine AW.seq (AW.reg cd67_3 fun K hK => ?_)
  simp only [g67_3, bR, Nat.reduceEqDiff, reduceIte, Int.reduceBNe, Int.reduceBEq]
  simp only [typR, useR, okR, isE_gl hlt, e_a6, bR, Nat.reduceEqDiff, reduceIte, Int.reduceBNe, Int.reduceBEq]
  rw [stR3_ok (e_isVal _) (by rw [e_okS]; rfl) ((e_sh _).trans rfl)]
  simp only [setAt_nil, bR, Nat.reduceEqDiff, reduceIte, Int.reduceBNe, Int.reduceBEq]
  refine .done (hK _ ?_); clear hK K; simp only [thenQ, blockQ]
  refine AW.seq (AW.reg cd67_4 fun K hK => ?_)
  simp only [g67_4, bR, Nat.reduceEqDiff, reduceIte, Int.reduceBNe, Int.reduceBEq]
  simp only [slE_take (α := Given) 7 (show i ≤ l.length by omega) rfl, Option.map_none, bR, Nat.reduceEqDiff, reduceIte, Int.reduceBNe, Int.reduceBEq]
  try simp only [typR, useR, okR, e_fin, bR, Nat.reduceEqDiff, reduceIte, Int.reduceBNe, Int.reduceBEq]
  refine .done (hK _ ?_); clear hK K; simp only [thenQ, blockQ]
  have hti : (l.take i).length = i := by rw [List.length_take]; omega
  simp only [hti]
  refine AW.block (AW.loop (fun j : Nat => mkA [(1, enc l), (2, enc places), (3, .ptr 3 []), (8, .ptr 8 []), (11, enc l), (12, .int .i64 l.length), (13, .int .i64 i), (20, enc (l.take i)), (21, .int .i64 i), (22, .int .i64 j)] [(3, .box (enc w)), (8, .box (enc (gl l i)))]) (fun j => j ≤ i ∧ ∀ k, k < j → apartIn w places (gl l i) (gl l k) = true) (fun j => i - j) 0 ⟨by omega, fun k h => by omega⟩ ?_ (fun j hj => ?_))
  · refine Sub.of_lists ?_ ?_ ?_ ?_ <;> simp [subT, subO, onlyT, onlyO, isIn, look_cons, lookO_cons, lookO_nil, AV.only, AV.onlys, AO.only, onlys_map, onlys_append, e_only, e_int, e_bool]
  refine AW.seq (AW.reg cd67_5 fun K hK => ?_)
  simp only [g67_5, bR, Nat.reduceEqDiff, reduceIte, Int.reduceBNe, Int.reduceBEq]
  refine .done (hK _ ?_); clear hK K; simp only [thenQ, blockQ]
  refine AW.seq ?_
  refine AW.ite ?_
  simp only [condQ, bR, Nat.reduceEqDiff, reduceIte, Int.reduceBNe, Int.reduceBEq]
  refine ⟨fun h => ?_, fun h => ?_⟩
  case refine_2.refine_2 =>
    have hge : j = i := by simp at h; omega
    subst hge
    refine AW.exit ?_; simp only [thenQ, blockQ, reduceIte, Nat.reduceEqDiff]
    refine AW.reg cd67_10 fun K hK => ?_
    simp only [g67_10, bR, Nat.reduceEqDiff, reduceIte, Int.reduceBNe, Int.reduceBEq]
    refine .done (hK _ ?_); clear hK K; simp only [thenQ, blockQ]
    refine ⟨j + 1, ⟨by omega, fun k hk => ?_⟩, by omega, ?_⟩
    · rcases Nat.lt_or_ge k j with h1 | h1
      · exact hi.2 k h1
      · have : k = j := by omega
        subst this
        exact all_true hj.2
    · rw [wrap_id _ (by omega) (by omega)]
      refine Sub.of_lists ?_ ?_ ?_ ?_ <;> simp [subT, subO, onlyT, onlyO, isIn, look_cons, lookO_cons, lookO_nil, AV.only, AV.onlys, AO.only, onlys_map, onlys_append, e_only, e_int, e_bool]
  have hjl : j < i := by simp at h; omega
  have bad2 : apartIn w places (gl l i) (gl l j) = false → settledAt w l places i = false := fun h => all_false j hjl h
  refine AW.skip ?_; simp only [thenQ, blockQ, reduceIte, Nat.reduceEqDiff]
  refine AW.seq (AW.block ?_)
  refine AW.seq (AW.reg cd67_6 fun K hK => ?_)
  simp only [g67_6, bR, Nat.reduceEqDiff, reduceIte, Int.reduceBNe, Int.reduceBEq]
  try simp only [typR, useR, okR, isE_gl (show j < (l.take i).length by omega), gl_take hjl (show i ≤ l.length by omega), e_a6, bR, Nat.reduceEqDiff, reduceIte, Int.reduceBNe, Int.reduceBEq]
  rw [stR3_ok (e_isVal _) (by rw [e_okS]; rfl) ((e_sh _).trans rfl)]
  simp only [setAt_nil, bR, Nat.reduceEqDiff, reduceIte, Int.reduceBNe, Int.reduceBEq]
  refine .done (hK _ ?_); clear hK K; simp only [thenQ, blockQ]
  refine AW.seq ?_
  refine AW.reg cd67_7 fun K hK => ?_
  simp only [g67_7, bR, Nat.reduceEqDiff, reduceIte, Int.reduceBNe, Int.reduceBEq]
  simp only [List.all_cons, List.all_nil, AV.isVal, Bool.and_true, Bool.and_self, if_true, e_isVal, e_closed, e_fin, bR, Nat.reduceEqDiff, reduceIte, Int.reduceBNe, Int.reduceBEq]
  try simp only [typR, useR, okR, e_fin, bR, Nat.reduceEqDiff, reduceIte, Int.reduceBNe, Int.reduceBEq]
  refine .flat _ (F75 places 107 [.ref (enc w), .ref (enc (gl l i)), .ref (enc (gl l j))] ?_ (fun k => apartAt w (gl l i).mark (gl l j).mark k.toNat) (fun k hk => ?_)) rfl ?_
  · simp [AV.dones, AV.done, Enc.done, e_closed]
  · have hk2 := hp k hk
    have := F107 w (gl l i) (gl l j) k.toNat (by omega) (hok i hlt) (hok j (by omega))
    rwa [show ((k.toNat : Nat) : Int) = k by omega] at this
  try simp only [typR, useR, okR, e_fin, bR, Nat.reduceEqDiff, reduceIte, Int.reduceBNe, Int.reduceBEq]
  refine .done (hK _ ?_); clear hK K; simp only [thenQ, blockQ]
  refine AW.ite ?_
  simp only [condQ, bR, Nat.reduceEqDiff, reduceIte, Int.reduceBNe, Int.reduceBEq]
  refine ⟨fun h => ?_, fun h => ?_⟩
  · refine AW.seq (AW.reg cd67_8 fun K hK => ?_)
    simp only [g67_8, bR, Nat.reduceEqDiff, reduceIte, Int.reduceBNe, Int.reduceBEq]
    refine .done (hK _ ?_); clear hK K; simp only [thenQ, blockQ]
    refine AW.ret ?_
    simp only [blockQ, thenQ, bR, Nat.reduceEqDiff, reduceIte, Int.reduceBNe, Int.reduceBEq]
    have h1 : apartIn w places (gl l i) (gl l j) = false := by simpa [apartIn] using h
    rw [bad (bad2 h1)]
  · refine AW.skip ?_; simp only [thenQ, blockQ, reduceIte, Nat.reduceEqDiff]
    have h1 : apartIn w places (gl l i) (gl l j) = true := by simpa [apartIn] using h
    refine AW.reg cd67_9 fun K hK => ?_
    simp only [g67_9, bR, Nat.reduceEqDiff, reduceIte, Int.reduceBNe, Int.reduceBEq]
    refine .done (hK _ ?_); clear hK K; simp only [thenQ, blockQ]
    refine ⟨j + 1, ⟨by omega, fun k hk => ?_⟩, by omega, ?_⟩
    · rcases Nat.lt_or_ge k j with h2 | h2
      · exact hj.2 k h2
      · have : k = j := by omega
        subst this; exact h1
    · rw [wrap_id _ (by omega) (by omega)]
      refine Sub.of_lists ?_ ?_ ?_ ?_ <;> simp [subT, subO, onlyT, onlyO, isIn, look_cons, lookO_cons, lookO_nil, AV.only, AV.onlys, AO.only, onlys_map, onlys_append, e_only, e_int, e_bool]
end Go.Proofs.Ytkjkbpgdpnapfaa

/-
  FUNCTIONS OF mark BY CONTRACT: arePlaces, list; of cmp and slices: Compare.
-/
namespace Go.Proofs.Ytkjkbpgdpnapfaa
open Go Go.Abs
open Go.Abs.Enc (enc)
theorem F123 (x : Int) : Ctr Try.prog 123 [enc x] (enc false) := by
  refine Ctr.mk' Try.func123 ca123 cc123 cr123 (Nat.le_of_ble_eq_true rfl) (fun hwf W0 D0 E1 => ?_)
  simp only [c123, r123, idx, Nat.zero_add, Nat.reduceAdd]
  refine AW.seq (AW.reg cd123_0 fun K hK => ?_)
  simp only [g123_0, bR, Nat.reduceEqDiff, reduceIte, Int.reduceBNe, Int.reduceBEq]
  refine .done (hK _ ?_); clear hK K; simp only [thenQ, blockQ]
  refine AW.seq (AW.reg cd123_1 fun K hK => ?_)
  simp only [g123_1, bR, Nat.reduceEqDiff, reduceIte, Int.reduceBNe, Int.reduceBEq]
  refine .done (hK _ ?_); clear hK K; simp only [thenQ, blockQ]
  refine AW.ret ?_
  simp only [blockQ, thenQ, bR, Nat.reduceEqDiff, reduceIte, Int.reduceBNe, Int.reduceBEq]
  simp
def cmpI (x y : Int) : Int := if x < y then -1 else if y < x then 1 else 0
theorem F106 (x y : Int) : Ctr Try.prog 106 [enc x, enc y] (enc (cmpI x y)) := by
  refine Ctr.mk' Try.func106 ca106 cc106 cr106 (Nat.le_of_ble_eq_true rfl) (fun hwf W0 D0 E1 => ?_)
  simp only [c106, r106, idx, Nat.zero_add, Nat.reduceAdd]
  refine AW.seq (AW.reg cd106_0 fun K hK => ?_)
  simp only [g106_0, bR, Nat.reduceEqDiff, reduceIte, Int.reduceBNe, Int.reduceBEq]
  refine .done (hK _ ?_); clear hK K; simp only [thenQ, blockQ]
  refine AW.seq (AW.reg cd106_1 fun K hK => ?_)
  simp only [g106_1, bR, Nat.reduceEqDiff, reduceIte, Int.reduceBNe, Int.reduceBEq]
  refine .flat _ (F123 x) rfl ?_
  try simp only [typR, useR, okR, e_fin, bR, Nat.reduceEqDiff, reduceIte, Int.reduceBNe, Int.reduceBEq]
  refine .done (hK _ ?_); clear hK K; simp only [thenQ, blockQ]
  refine AW.seq (AW.reg cd106_2 fun K hK => ?_)
  simp only [g106_2, bR, Nat.reduceEqDiff, reduceIte, Int.reduceBNe, Int.reduceBEq]
  refine .flat _ (F123 y) rfl ?_
  try simp only [typR, useR, okR, e_fin, bR, Nat.reduceEqDiff, reduceIte, Int.reduceBNe, Int.reduceBEq]
  refine .done (hK _ ?_); clear hK K; simp only [thenQ, blockQ]
  refine AW.seq ?_
  refine AW.seq (AW.reg cd106_3 fun K hK => ?_)
  simp only [g106_3, bR, Nat.reduceEqDiff, reduceIte, Int.reduceBNe, Int.reduceBEq]
  refine .done (hK _ ?_); clear hK K; simp only [thenQ, blockQ]
  refine AW.ite ?_
  simp only [condQ, bR, Nat.reduceEqDiff, reduceIte, Int.reduceBNe, Int.reduceBEq]
  refine ⟨fun h => ?_, fun h => ?_⟩
  · cases h
  refine AW.skip ?_; simp only [thenQ, blockQ, reduceIte, Nat.reduceEqDiff]
  refine AW.seq ?_
  refine AW.seq (AW.reg cd106_7 fun K hK => ?_)
  simp only [g106_7, bR, Nat.reduceEqDiff, reduceIte, Int.reduceBNe, Int.reduceBEq]
  refine .done (hK _ ?_); clear hK K; simp only [thenQ, blockQ]
  refine AW.ite ?_
  simp only [condQ, bR, Nat.reduceEqDiff, reduceIte, Int.reduceBNe, Int.reduceBEq]
  refine ⟨fun h => ?_, fun h => ?_⟩
  · cases h
  refine AW.skip ?_; simp only [thenQ, blockQ, reduceIte, Nat.reduceEqDiff]
  refine AW.seq ?_
  refine AW.seq (AW.reg cd106_9 fun K hK => ?_)
  simp only [g106_9, bR, Nat.reduceEqDiff, reduceIte, Int.reduceBNe, Int.reduceBEq]
  refine .done (hK _ ?_); clear hK K; simp only [thenQ, blockQ]
  refine AW.ite ?_
  simp only [condQ, bR, Nat.reduceEqDiff, reduceIte, Int.reduceBNe, Int.reduceBEq]
  refine ⟨fun h => ?_, fun h => ?_⟩
  · refine AW.seq (AW.reg cd106_10 fun K hK => ?_)
    simp only [g106_10, bR, Nat.reduceEqDiff, reduceIte, Int.reduceBNe, Int.reduceBEq]
    refine .done (hK _ ?_); clear hK K; simp only [thenQ, blockQ]
    refine AW.ret ?_
    simp only [blockQ, thenQ, bR, Nat.reduceEqDiff, reduceIte, Int.reduceBNe, Int.reduceBEq]
    have : x < y := by simpa using h
    simp [cmpI, this, e_int]
  have h1 : ¬ x < y := by simpa using h
  refine AW.skip ?_; simp only [thenQ, blockQ, reduceIte, Nat.reduceEqDiff]
  refine AW.seq ?_
  refine AW.seq (AW.reg cd106_11 fun K hK => ?_)
  simp only [g106_11, bR, Nat.reduceEqDiff, reduceIte, Int.reduceBNe, Int.reduceBEq]
  refine .done (hK _ ?_); clear hK K; simp only [thenQ, blockQ]
  refine AW.ite ?_
  simp only [condQ, bR, Nat.reduceEqDiff, reduceIte, Int.reduceBNe, Int.reduceBEq]
  refine ⟨fun h => ?_, fun h => ?_⟩
  · refine AW.seq (AW.reg cd106_12 fun K hK => ?_)
    simp only [g106_12, bR, Nat.reduceEqDiff, reduceIte, Int.reduceBNe, Int.reduceBEq]
    refine .done (hK _ ?_); clear hK K; simp only [thenQ, blockQ]
    refine AW.ret ?_
    simp only [blockQ, thenQ, bR, Nat.reduceEqDiff, reduceIte, Int.reduceBNe, Int.reduceBEq]
    have : y < x := by simpa using h
    simp [cmpI, this, h1, e_int]
  have h2 : ¬ y < x := by simpa using h
  refine AW.skip ?_; simp only [thenQ, blockQ, reduceIte, Nat.reduceEqDiff]
  refine AW.seq (AW.reg cd106_13 fun K hK => ?_)
  simp only [g106_13, bR, Nat.reduceEqDiff, reduceIte, Int.reduceBNe, Int.reduceBEq]
  refine .done (hK _ ?_); clear hK K; simp only [thenQ, blockQ]
  refine AW.ret ?_
  simp only [blockQ, thenQ, bR, Nat.reduceEqDiff, reduceIte, Int.reduceBNe, Int.reduceBEq]
  simp [cmpI, h1, h2, e_int]
def cmpL : List Int → List Int → Int
  | [], [] => 0
  | [], _ :: _ => -1
  | _ :: _, [] => 1
  | a :: x, b :: y => if cmpI a b = 0 then cmpL x y else cmpI a b
theorem cmpL_drop {a b : List Int} {i : Nat} (ha : i < a.length) (hb : i < b.length) : cmpL (a.drop i) (b.drop i) = if cmpI (a.getD i 0) (b.getD i 0) = 0 then cmpL (a.drop (i + 1)) (b.drop (i + 1)) else cmpI (a.getD i 0) (b.getD i 0) := by
  rw [List.drop_eq_getElem_cons ha, List.drop_eq_getElem_cons hb]
  simp only [cmpL, List.getD_eq_getElem?_getD, List.getElem?_eq_getElem ha, List.getElem?_eq_getElem hb, Option.getD_some]
theorem F66 (a b : List Int) : Ctr Try.prog 66 [enc a, enc b] (enc (cmpL a b)) := by
  refine Ctr.mk' Try.func66 ca66 cc66 cr66 (Nat.le_of_ble_eq_true rfl) (fun hwf W0 D0 E1 => ?_)
  simp only [c66, r66, idx, Nat.zero_add, Nat.reduceAdd]
  have hlen : a.length ≤ maxLen := ((wf_list a).1 hwf.1).1
  have hlen2 : b.length ≤ maxLen := ((wf_list b).1 hwf.2.1).1
  simp only [maxLen] at hlen hlen2
  refine AW.seq (AW.reg cd66_0 fun K hK => ?_)
  simp only [g66_0, bR, Nat.reduceEqDiff, reduceIte, Int.reduceBNe, Int.reduceBEq]
  refine .done (hK _ ?_); clear hK K; simp only [thenQ, blockQ]
  refine AW.seq ?_
  refine AW.seq (AW.reg cd66_1 fun K hK => ?_)
  simp only [g66_1, bR, Nat.reduceEqDiff, reduceIte, Int.reduceBNe, Int.reduceBEq]
  try simp only [typR, useR, okR, e_fin, bR, Nat.reduceEqDiff, reduceIte, Int.reduceBNe, Int.reduceBEq]
  refine .done (hK _ ?_); clear hK K; simp only [thenQ, blockQ]
  refine AW.block (AW.loop (fun i : Nat => mkA [(0, enc a), (1, enc b), (9, enc a), (10, .int .i64 a.length), (11, .int .i64 i)] []) (fun i => i ≤ a.length ∧ i ≤ b.length ∧ cmpL a b = cmpL (a.drop i) (b.drop i)) (fun i => a.length - i) 0 ⟨by omega, by omega, rfl⟩ ?_ (fun i hi => ?_))
  · refine Sub.of_lists ?_ ?_ ?_ ?_ <;> simp [subT, subO, onlyT, onlyO, isIn, look_cons, lookO_cons, lookO_nil, AV.only, AV.onlys, AO.only, onlys_map, onlys_append, e_only, e_int, e_bool]
  obtain ⟨hi1, hi2, hi3⟩ := hi
  refine AW.seq (AW.reg cd66_2 fun K hK => ?_)
  simp only [g66_2, bR, Nat.reduceEqDiff, reduceIte, Int.reduceBNe, Int.reduceBEq]
  refine .done (hK _ ?_); clear hK K; simp only [thenQ, blockQ]
  refine AW.seq ?_
  refine AW.ite ?_
  simp only [condQ, bR, Nat.reduceEqDiff, reduceIte, Int.reduceBNe, Int.reduceBEq]
  refine ⟨fun h => ?_, fun h => ?_⟩
  case refine_2.refine_2 =>
    have hge : i = a.length := by simp at h; omega
    subst hge
    refine AW.exit ?_; simp only [thenQ, blockQ, reduceIte, Nat.reduceEqDiff]
    refine AW.seq ?_
    refine AW.seq (AW.reg cd66_11 fun K hK => ?_)
    simp only [g66_11, bR, Nat.reduceEqDiff, reduceIte, Int.reduceBNe, Int.reduceBEq]
    try simp only [typR, useR, okR, e_fin, bR, Nat.reduceEqDiff, reduceIte, Int.reduceBNe, Int.reduceBEq]
    refine .done (hK _ ?_); clear hK K; simp only [thenQ, blockQ]
    rw [List.drop_length] at hi3
    refine AW.ite ?_
    simp only [condQ, bR, Nat.reduceEqDiff, reduceIte, Int.reduceBNe, Int.reduceBEq]
    refine ⟨fun h => ?_, fun h => ?_⟩
    · refine AW.seq (AW.reg cd66_12 fun K hK => ?_)
      simp only [g66_12, bR, Nat.reduceEqDiff, reduceIte, Int.reduceBNe, Int.reduceBEq]
      refine .done (hK _ ?_); clear hK K; simp only [thenQ, blockQ]
      refine AW.ret ?_
      simp only [blockQ, thenQ, bR, Nat.reduceEqDiff, reduceIte, Int.reduceBNe, Int.reduceBEq]
      have hlt : a.length < b.length := by simp at h; omega
      rw [hi3, List.drop_eq_getElem_cons hlt]
      rfl
    · refine AW.skip ?_; simp only [thenQ, blockQ, reduceIte, Nat.reduceEqDiff]
      refine AW.seq (AW.reg cd66_13 fun K hK => ?_)
      simp only [g66_13, bR, Nat.reduceEqDiff, reduceIte, Int.reduceBNe, Int.reduceBEq]
      refine .done (hK _ ?_); clear hK K; simp only [thenQ, blockQ]
      refine AW.ret ?_
      simp only [blockQ, thenQ, bR, Nat.reduceEqDiff, reduceIte, Int.reduceBNe, Int.reduceBEq]
      have hge : b.length ≤ a.length := by simp at h; omega
      rw [hi3, List.drop_of_length_le hge]
      rfl
  have hlt : i < a.length := by simp at h; omega
  refine AW.skip ?_; simp only [thenQ, blockQ, reduceIte, Nat.reduceEqDiff]
  refine AW.seq (AW.block ?_)
  refine AW.seq (AW.reg cd66_3 fun K hK => ?_)
  simp only [g66_3, bR, Nat.reduceEqDiff, reduceIte, Int.reduceBNe, Int.reduceBEq]
  simp only [typR, useR, okR, isE_getD hlt, bR, Nat.reduceEqDiff, reduceIte, Int.reduceBNe, Int.reduceBEq]
  refine .done (hK _ ?_); clear hK K; simp only [thenQ, blockQ]
  refine AW.seq ?_
  refine AW.seq (AW.reg cd66_4 fun K hK => ?_)
  simp only [g66_4, bR, Nat.reduceEqDiff, reduceIte, Int.reduceBNe, Int.reduceBEq]
  try simp only [typR, useR, okR, e_fin, bR, Nat.reduceEqDiff, reduceIte, Int.reduceBNe, Int.reduceBEq]
  refine .done (hK _ ?_); clear hK K; simp only [thenQ, blockQ]
  refine AW.ite ?_
  simp only [condQ, bR, Nat.reduceEqDiff, reduceIte, Int.reduceBNe, Int.reduceBEq]
  refine ⟨fun h => ?_, fun h => ?_⟩
  · have hge : i = b.length := by simp at h; omega
    refine AW.seq (AW.reg cd66_5 fun K hK => ?_)
    simp only [g66_5, bR, Nat.reduceEqDiff, reduceIte, Int.reduceBNe, Int.reduceBEq]
    refine .done (hK _ ?_); clear hK K; simp only [thenQ, blockQ]
    refine AW.ret ?_
    simp only [blockQ, thenQ, bR, Nat.reduceEqDiff, reduceIte, Int.reduceBNe, Int.reduceBEq]
    rw [hi3, List.drop_of_length_le (l := b) (by omega), List.drop_eq_getElem_cons hlt]
    rfl
  have hlb : i < b.length := by simp at h; omega
  refine AW.skip ?_; simp only [thenQ, blockQ, reduceIte, Nat.reduceEqDiff]
  refine AW.seq (AW.reg cd66_6 fun K hK => ?_)
  simp only [g66_6, bR, Nat.reduceEqDiff, reduceIte, Int.reduceBNe, Int.reduceBEq]
  simp only [typR, useR, okR, isE_getD hlb, bR, Nat.reduceEqDiff, reduceIte, Int.reduceBNe, Int.reduceBEq]
  refine .done (hK _ ?_); clear hK K; simp only [thenQ, blockQ]
  refine AW.seq (AW.reg cd66_7 fun K hK => ?_)
  simp only [g66_7, bR, Nat.reduceEqDiff, reduceIte, Int.reduceBNe, Int.reduceBEq]
  try simp only [typR, useR, okR, e_fin, bR, Nat.reduceEqDiff, reduceIte, Int.reduceBNe, Int.reduceBEq]
  refine .flat _ (F106 (a.getD i 0) (b.getD i 0)) rfl ?_
  try simp only [typR, useR, okR, e_fin, bR, Nat.reduceEqDiff, reduceIte, Int.reduceBNe, Int.reduceBEq]
  refine .done (hK _ ?_); clear hK K; simp only [thenQ, blockQ]
  refine AW.seq (AW.reg cd66_8 fun K hK => ?_)
  simp only [g66_8, bR, Nat.reduceEqDiff, reduceIte, Int.reduceBNe, Int.reduceBEq]
  refine .done (hK _ ?_); clear hK K; simp only [thenQ, blockQ]
  rw [cmpL_drop hlt hlb] at hi3
  refine AW.ite ?_
  simp only [condQ, bR, Nat.reduceEqDiff, reduceIte, Int.reduceBNe, Int.reduceBEq]
  refine ⟨fun h => ?_, fun h => ?_⟩
  · refine AW.seq (AW.reg cd66_9 fun K hK => ?_)
    simp only [g66_9, bR, Nat.reduceEqDiff, reduceIte, Int.reduceBNe, Int.reduceBEq]
    refine .done (hK _ ?_); clear hK K; simp only [thenQ, blockQ]
    refine AW.ret ?_
    simp only [blockQ, thenQ, bR, Nat.reduceEqDiff, reduceIte, Int.reduceBNe, Int.reduceBEq]
    have : cmpI (a.getD i 0) (b.getD i 0) ≠ 0 := by simpa using h
    rw [hi3, if_neg this]
  · have : cmpI (a.getD i 0) (b.getD i 0) = 0 := by simpa using h
    refine AW.skip ?_; simp only [thenQ, blockQ, reduceIte, Nat.reduceEqDiff]
    refine AW.reg cd66_10 fun K hK => ?_
    simp only [g66_10, bR, Nat.reduceEqDiff, reduceIte, Int.reduceBNe, Int.reduceBEq]
    refine .done (hK _ ?_); clear hK K; simp only [thenQ, blockQ]
    refine ⟨i + 1, ⟨by omega, by omega, by rw [hi3, if_pos this]⟩, by omega, ?_⟩
    rw [wrap_id _ (by omega) (by omega)]
    refine Sub.of_lists ?_ ?_ ?_ ?_ <;> simp [subT, subO, onlyT, onlyO, isIn, look_cons, lookO_cons, lookO_nil, AV.only, AV.onlys, AO.only, onlys_map, onlys_append, e_only, e_int, e_bool]
end Go.Proofs.Ytkjkbpgdpnapfaa

/-
  FUNCTIONS OF mark BY CONTRACT: Look.
-/
namespace Go.Proofs.Ytkjkbpgdpnapfaa
open Go Go.Abs
open Go.Abs.Enc (enc)
def bitsOf (s : Nat) : Nat → List Int
  | 0 => []
  | i + 1 => bitsOf s i ++ if hasB s i then [(i : Int)] else []
theorem bitsOf_le (s : Nat) : ∀ i, (bitsOf s i).length ≤ i
  | 0 => Nat.le_refl _
  | i + 1 => by
    have := bitsOf_le s i
    simp only [bitsOf, List.length_append]
    split <;> simp <;> omega
theorem bitsOf_in (s : Nat) : ∀ i, i ≤ 6 → ∀ k ∈ bitsOf s i, 0 ≤ k ∧ k < 6
  | 0, _ => by simp [bitsOf]
  | i + 1, h => by
    intro k hk
    simp only [bitsOf, List.mem_append] at hk
    rcases hk with hk | hk
    · exact bitsOf_in s i (by omega) k hk
    · split at hk
      · simp only [List.mem_singleton] at hk; omega
      · cases hk
def better (found : Bool) (best set : List Int) : Bool := (!found || decide ((set.length : Int) < best.length)) || (((set.length : Int) == best.length) && decide (cmpL set best < 0))
def lookStep (w : Arr 5 Int) (poss : List Given) (p : List Int × Bool) (s : Nat) : List Int × Bool := if better p.2 p.1 (bitsOf s 6) && settled w poss (bitsOf s 6) then (bitsOf s 6, true) else p
def lookUp (w : Arr 5 Int) (poss : List Given) : Nat → List Int × Bool
  | 0 => ([], false)
  | s + 1 => lookStep w poss (lookUp w poss s) s
def lookOf (m : Marks) (r : Arr 6 Int) : List Int × Int := if okM m then (if okReading r then ((lookUp m.wear (possG m r) 64).1, 0) else ([], 12)) else ([], 13)
theorem lookUp_le (w : Arr 5 Int) (poss : List Given) : ∀ s, (lookUp w poss s).1.length ≤ 6
  | 0 => by simp [lookUp]
  | s + 1 => by
    have := lookUp_le w poss s
    have h2 := bitsOf_le s 6
    simp only [lookUp, lookStep]
    split
    · exact h2
    · exact this
theorem possG_mem {m : Marks} {r : Arr 6 Int} {g : Given} (h : g ∈ possG m r) : g ∈ m.given := (List.mem_filter.1 h).1
theorem F12 (m : Marks) (r : Arr 6 Int) : Ctr Try.prog 12 [enc m, enc r] (.tuple [enc (lookOf m r).1, enc (lookOf m r).2]) := by
  refine Ctr.mk' Try.func12 ca12 cc12 cr12 (Nat.le_of_ble_eq_true rfl) (fun hwf W0 D0 E1 => ?_)
  simp only [c12, r12, idx, Nat.zero_add, Nat.reduceAdd]
  refine AW.seq (AW.reg cd12_0 fun K hK => ?_)
  simp only [g12_0, bR, Nat.reduceEqDiff, reduceIte, Int.reduceBNe, Int.reduceBEq]
  simp only [e_isVal, bR, Nat.reduceEqDiff, reduceIte, Int.reduceBNe, Int.reduceBEq]
  refine .done (hK _ ?_); clear hK K; simp only [thenQ, blockQ]
  refine AW.seq ?_
  refine AW.seq (AW.reg cd12_1 fun K hK => ?_)
  simp only [g12_1, bR, Nat.reduceEqDiff, reduceIte, Int.reduceBNe, Int.reduceBEq]
  simp only [typR, useR, okR, e_fin, bR, Nat.reduceEqDiff, reduceIte, Int.reduceBNe, Int.reduceBEq]
  refine .flat _ (F47 m) rfl ?_
  simp only [typR, useR, okR, e_fin, bR, Nat.reduceEqDiff, reduceIte, Int.reduceBNe, Int.reduceBEq]
  refine .flat _ (F45 r) rfl ?_
  simp only [typR, useR, okR, e_fin, bs2, bR, Nat.reduceEqDiff, reduceIte, Int.reduceBNe, Int.reduceBEq]
  refine .flat _ (F64 _) rfl ?_
  rw [first2 _ _ 13 12 (by decide) (by decide)]
  simp only [bR, Nat.reduceEqDiff, reduceIte, Int.reduceBNe, Int.reduceBEq]
  refine .done (hK _ ?_); clear hK K; simp only [thenQ, blockQ]
  generalize hw : okM m = bw
  generalize hr : okReading r = br
  cases bw
  · refine AW.seq (AW.reg cd12_2 fun K hK => ?_)
    simp only [g12_2, bR, Nat.reduceEqDiff, reduceIte, Int.reduceBNe, Int.reduceBEq]
    refine .done (hK _ ?_); clear hK K; simp only [thenQ, blockQ]
    refine AW.ite ?_
    simp only [condQ, bR, Nat.reduceEqDiff, reduceIte, Int.reduceBNe, Int.reduceBEq]
    refine ⟨fun h => ?_, fun h => ?_⟩
    · refine AW.seq (AW.reg cd12_3 fun K hK => ?_)
      simp only [g12_3, bR, Nat.reduceEqDiff, reduceIte, Int.reduceBNe, Int.reduceBEq]
      refine .done (hK _ ?_); clear hK K; simp only [thenQ, blockQ]
      refine AW.ret ?_
      simp only [blockQ, thenQ, bR, Nat.reduceEqDiff, reduceIte, Int.reduceBNe, Int.reduceBEq]
      simp [lookOf, hw, nilInt]
    · cases h
  cases br
  · refine AW.seq (AW.reg cd12_2 fun K hK => ?_)
    simp only [g12_2, bR, Nat.reduceEqDiff, reduceIte, Int.reduceBNe, Int.reduceBEq]
    refine .done (hK _ ?_); clear hK K; simp only [thenQ, blockQ]
    refine AW.ite ?_
    simp only [condQ, bR, Nat.reduceEqDiff, reduceIte, Int.reduceBNe, Int.reduceBEq]
    refine ⟨fun h => ?_, fun h => ?_⟩
    · refine AW.seq (AW.reg cd12_3 fun K hK => ?_)
      simp only [g12_3, bR, Nat.reduceEqDiff, reduceIte, Int.reduceBNe, Int.reduceBEq]
      refine .done (hK _ ?_); clear hK K; simp only [thenQ, blockQ]
      refine AW.ret ?_
      simp only [blockQ, thenQ, bR, Nat.reduceEqDiff, reduceIte, Int.reduceBNe, Int.reduceBEq]
      simp [lookOf, hw, hr, nilInt]
    · cases h
  refine AW.seq (AW.reg cd12_2 fun K hK => ?_)
  simp only [g12_2, bR, Nat.reduceEqDiff, reduceIte, Int.reduceBNe, Int.reduceBEq]
  refine .done (hK _ ?_); clear hK K; simp only [thenQ, blockQ]
  refine AW.ite ?_
  simp only [condQ, bR, Nat.reduceEqDiff, reduceIte, Int.reduceBNe, Int.reduceBEq]
  refine ⟨fun h => ?_, fun h => ?_⟩
  · cases h
  refine AW.skip ?_; simp only [thenQ, blockQ, reduceIte, Nat.reduceEqDiff]
  have hlen : m.given.length ≤ 1000 := by have := okM_len hw; omega
  have hpl : (possG m r).length ≤ 1000 := Nat.le_trans (List.length_filter_le _ _) hlen
  have hpm : ∀ g ∈ possG m r, okMark g.mark = true := fun g hg => okM_mark hw g (possG_mem hg)
  obtain ⟨poss, hposs⟩ : ∃ poss, poss = possG m r := ⟨_, rfl⟩
  -- what follows, from the possible ones on
  have key : ∀ c : Ctx, c = ⟨Try.prog, W0, D0, Try.f12.ntmps, ownE E1, E1, noY, none⟩ → AW c (.seq (.reg d12_5 g12_5) (.seq (.reg d12_6 g12_6) (.seq (.seq (.reg d12_7 g12_7) (.block 0 (.loop (.seq (.reg d12_8 g12_8) (.seq (.cond (.t 27) .skip (.exit 0)) (.seq (.block 1 (.seq (.reg d12_9 g12_9) (.seq (.reg d12_10 g12_10) (.seq (.seq (.reg d12_11 g12_11) (.block 2 (.loop (.seq (.reg d12_12 g12_12) (.seq (.cond (.t 30) .skip (.exit 2)) (.seq (.block 3 (.seq (.reg d12_13 g12_13) (.seq (.reg d12_14 g12_14) (.cond (.t 36) (.reg d12_15 g12_15) .skip)))) (.reg d12_16 g12_16))))))) (.seq (.reg d12_17 g12_17) (.seq (.reg d12_18 g12_18) (.cond (.t 71) (.reg d12_19 g12_19) .skip))))))) (.reg d12_20 g12_20))))))) (.seq (.reg d12_21 g12_21) .ret))))
      (retQ [.tmp 4, .tmp 5] (.tuple [enc (lookOf m r).1, enc (lookOf m r).2])) (mkA [(2, .ptr 2 []), (3, .ptr 3 []), (7, enc poss)] [(2, .box (enc m)), (3, .box (enc r))]) := by
    rintro c rfl
    refine AW.seq (AW.reg cd12_5 fun K hK => ?_)
    simp only [g12_5, bR, Nat.reduceEqDiff, reduceIte, Int.reduceBNe, Int.reduceBEq]
    refine .done (hK _ ?_); clear hK K; simp only [thenQ, blockQ]
    refine AW.seq (AW.reg cd12_6 fun K hK => ?_)
    simp only [g12_6, bR, Nat.reduceEqDiff, reduceIte, Int.reduceBNe, Int.reduceBEq]
    refine .done (hK _ ?_); clear hK K; simp only [thenQ, blockQ]
    refine AW.seq ?_
    refine AW.seq (AW.reg cd12_7 fun K hK => ?_)
    simp only [g12_7, bR, Nat.reduceEqDiff, reduceIte, Int.reduceBNe, Int.reduceBEq]
    refine .done (hK _ ?_); clear hK K; simp only [thenQ, blockQ]
    refine AW.block (AW.loop (fun s : Nat => mkA [(2, .ptr 2 []), (3, .ptr 3 []), (7, enc poss), (8, enc (lookUp m.wear poss s).1), (9, .bool (lookUp m.wear poss s).2), (26, .int .i64 s)] [(2, .box (enc m)), (3, .box (enc r))]) (fun s => s ≤ 64) (fun s => 64 - s) 0 (by omega) ?_ (fun s hs => ?_))
    · simp only [lookUp]
      refine Sub.freeL (y := .slice 1 []) [] 8 rfl rfl ?_ ?_ ?_ ?_ ?_
      · simp [dropO, onlyO, AO.only, e_only]
      · simp [subT, fgt, look_cons, AV.only, e_only]; rfl
      · simp [subO, dropO, lookO_cons]
      · simp [onlyT, isIn, lookO_cons, AV.only, e_only]
      · simp [onlyO, AO.only, e_only]
    obtain ⟨best, hbest⟩ : ∃ best, (lookUp m.wear poss s).1 = best := ⟨_, rfl⟩
    obtain ⟨found, hfound⟩ : ∃ found, (lookUp m.wear poss s).2 = found := ⟨_, rfl⟩
    have hlu : lookUp m.wear poss s = (best, found) := by rw [← hbest, ← hfound]
    have hbl : best.length ≤ 6 := by rw [← hbest]; exact lookUp_le _ _ _
    rw [hbest, hfound]
    refine AW.seq (AW.reg cd12_8 fun K hK => ?_)
    simp only [g12_8, bR, Nat.reduceEqDiff, reduceIte, Int.reduceBNe, Int.reduceBEq]
    refine .done (hK _ ?_); clear hK K; simp only [thenQ, blockQ]
    refine AW.seq ?_
    refine AW.ite ?_
    simp only [condQ, bR, Nat.reduceEqDiff, reduceIte, Int.reduceBNe, Int.reduceBEq]
    refine ⟨fun h => ?_, fun h => ?_⟩
    case refine_2.refine_2 =>
      have hge : s = 64 := by simp at h; omega
      subst hge
      refine AW.exit ?_; simp only [thenQ, blockQ, reduceIte, Nat.reduceEqDiff]
      refine AW.seq (AW.reg cd12_21 fun K hK => ?_)
      simp only [g12_21, bR, Nat.reduceEqDiff, reduceIte, Int.reduceBNe, Int.reduceBEq]
      refine .done (hK _ ?_); clear hK K; simp only [thenQ, blockQ]
      refine AW.ret ?_
      simp only [blockQ, thenQ, bR, Nat.reduceEqDiff, reduceIte, Int.reduceBNe, Int.reduceBEq]
      simp only [e_fin, bR, Nat.reduceEqDiff, reduceIte, Int.reduceBNe, Int.reduceBEq]
      simp [lookOf, hw, hr, hlu, ← hposs, e_int]
    have hlt : s < 64 := by simp at h; omega
    refine AW.skip ?_; simp only [thenQ, blockQ, reduceIte, Nat.reduceEqDiff]
    refine AW.seq (AW.block ?_)
    refine AW.seq (AW.reg cd12_9 fun K hK => ?_)
    simp only [g12_9, bR, Nat.reduceEqDiff, reduceIte, Int.reduceBNe, Int.reduceBEq]
    refine .done (hK _ ?_); clear hK K; simp only [thenQ, blockQ]
    refine AW.seq (AW.reg cd12_10 fun K hK => ?_)
    simp only [g12_10, bR, Nat.reduceEqDiff, reduceIte, Int.reduceBNe, Int.reduceBEq]
    refine .done (hK _ ?_); clear hK K; simp only [thenQ, blockQ]
    refine AW.seq ?_
    refine AW.seq (AW.reg cd12_11 fun K hK => ?_)
    simp only [g12_11, bR, Nat.reduceEqDiff, reduceIte, Int.reduceBNe, Int.reduceBEq]
    refine .done (hK _ ?_); clear hK K; simp only [thenQ, blockQ]
    refine AW.block (AW.loop (fun i : Nat => mkA [(2, .ptr 2 []), (3, .ptr 3 []), (7, enc poss), (8, enc best), (9, .bool found), (10, .int .i64 s), (26, .int .i64 s), (11, .own 11 (bitsOf s i).length), (29, .int .i64 i)] [(11, .row 3 1 ((bitsOf s i).map enc)), (2, .box (enc m)), (3, .box (enc r))]) (fun i => i ≤ 6) (fun i => 6 - i) 0 (by omega) ?_ (fun i hi => ?_))
    · refine Sub.adoptL 11 11 3 1 1 ?_ ?_ ?_
      · simp only [absR, Nat.reduceEqDiff, reduceIte]
      · simp only [absR, Nat.reduceEqDiff, reduceIte]
      · simp only [bitsOf, List.map_nil, List.length_nil]
        refine Sub.of_lists ?_ ?_ ?_ ?_ <;> simp [subT, subO, onlyT, onlyO, isIn, look_cons, lookO_cons, lookO_nil, AV.only, AV.onlys, AO.only, onlys_map, onlys_append, e_only, e_int, e_bool]
    refine AW.seq (AW.reg cd12_12 fun K hK => ?_)
    simp only [g12_12, bR, Nat.reduceEqDiff, reduceIte, Int.reduceBNe, Int.reduceBEq]
    refine .done (hK _ ?_); clear hK K; simp only [thenQ, blockQ]
    refine AW.seq ?_
    refine AW.ite ?_
    simp only [condQ, bR, Nat.reduceEqDiff, reduceIte, Int.reduceBNe, Int.reduceBEq]
    refine ⟨fun h => ?_, fun h => ?_⟩
    · have hi6 : i < 6 := by simp at h; omega
      have hml := bitsOf_le s i
      refine AW.skip ?_; simp only [thenQ, blockQ, reduceIte, Nat.reduceEqDiff]
      refine AW.seq (AW.block ?_)
      refine AW.seq (AW.reg cd12_13 fun K hK => ?_)
      simp only [g12_13, bR, Nat.reduceEqDiff, reduceIte, Int.reduceBNe, Int.reduceBEq]
      refine .done (hK _ ?_); clear hK K; simp only [thenQ, blockQ]
      refine AW.seq (AW.reg cd12_14 fun K hK => ?_)
      simp only [g12_14, bR, Nat.reduceEqDiff, reduceIte, Int.reduceBNe, Int.reduceBEq]
      refine .done (hK _ ?_); clear hK K; simp only [thenQ, blockQ]
      refine AW.ite ?_
      simp only [condQ, bR, Nat.reduceEqDiff, reduceIte, Int.reduceBNe, Int.reduceBEq]
      refine ⟨fun h => ?_, fun h => ?_⟩
      · have hb : hasB s i = true := h
        refine AW.reg cd12_15 fun K hK => ?_
        simp only [g12_15, bR, Nat.reduceEqDiff, reduceIte, Int.reduceBNe, Int.reduceBEq]
        rw [appR3_enc 3 1 8 11 rfl rfl (by simp) (by simp [maxLen]; omega) (by simp; omega)]
        simp only [bR, Nat.reduceEqDiff, reduceIte, Int.reduceBNe, Int.reduceBEq]
        refine .done (hK _ ?_); clear hK K; simp only [thenQ, blockQ]
        refine AW.reg cd12_16 fun K hK => ?_
        simp only [g12_16, bR, Nat.reduceEqDiff, reduceIte, Int.reduceBNe, Int.reduceBEq]
        refine .done (hK _ ?_); clear hK K; simp only [thenQ, blockQ]
        refine ⟨i + 1, by omega, by omega, ?_⟩
        rw [wrap_id _ (by omega) (by omega)]
        simp only [bitsOf, hb, reduceIte]
        refine Sub.of_lists ?_ ?_ ?_ ?_ <;> simp [subT, subO, onlyT, onlyO, isIn, look_cons, lookO_cons, lookO_nil, AV.only, AV.onlys, AO.only, onlys_map, onlys_append, e_only, e_int, e_bool]
      · have hb : hasB s i = false := h
        refine AW.skip ?_; simp only [thenQ, blockQ, reduceIte, Nat.reduceEqDiff]
        refine AW.reg cd12_16 fun K hK => ?_
        simp only [g12_16, bR, Nat.reduceEqDiff, reduceIte, Int.reduceBNe, Int.reduceBEq]
        refine .done (hK _ ?_); clear hK K; simp only [thenQ, blockQ]
        refine ⟨i + 1, by omega, by omega, ?_⟩
        rw [wrap_id _ (by omega) (by omega)]
        simp only [bitsOf, hb, reduceIte, Bool.false_eq_true, List.append_nil]
        refine Sub.of_lists ?_ ?_ ?_ ?_ <;> simp [subT, subO, onlyT, onlyO, isIn, look_cons, lookO_cons, lookO_nil, AV.only, AV.onlys, AO.only, onlys_map, onlys_append, e_only, e_int, e_bool]
    have hi6 : i = 6 := by simp at h; omega
    subst hi6
    refine AW.exit ?_; simp only [thenQ, blockQ, reduceIte, Nat.reduceEqDiff]
    have hset := bitsOf_in s 6 (Nat.le_refl _)
    have hsl := bitsOf_le s 6
    have hstep : lookUp m.wear poss (s + 1) = lookStep m.wear poss (best, found) s := by rw [lookUp, hlu]
    obtain ⟨set, hsetd⟩ : ∃ set, bitsOf s 6 = set := ⟨_, rfl⟩
    simp only [lookStep, hsetd] at hstep
    rw [hsetd] at hset hsl ⊢
    refine AW.sub (B := mkA [(2, .ptr 2 []), (3, .ptr 3 []), (7, enc poss), (8, enc best), (9, .bool found), (11, enc set), (26, .int .i64 s)] [(2, .box (enc m)), (3, .box (enc r))]) (Sub.freeL (y := enc set) [11] 11 (by simp only [bR, Nat.reduceEqDiff, reduceIte, Int.reduceBNe, Int.reduceBEq]; rfl) ?_ ?_ ?_ ?_ ?_ ?_) ?_
    · simp only [keepO, List.filter_cons, List.filter_nil, List.contains_cons, List.contains_nil, Nat.reduceBEq, Bool.or_false, Bool.or_true, Bool.true_or, BEq.rfl, bR, Nat.reduceEqDiff, reduceIte, Int.reduceBNe, Int.reduceBEq]
    · simp [dropO, onlyO, AO.only, e_only]
    · simp [subT, fgt, look_cons, AV.only, e_only]
    · simp [subO, dropO, lookO_cons]
    · simp [onlyT, isIn, lookO_cons, AV.only, e_only]
    · simp [onlyO, AO.only, e_only]
    refine AW.seq (AW.via (mkA [(13, .bool (better found best set)), (2, .ptr 2 []), (3, .ptr 3 []), (7, enc poss), (8, enc best), (9, .bool found), (11, enc set), (26, .int .i64 s)] [(2, .box (enc m)), (3, .box (enc r))]) ?_ fun B hB => ?_)
    · refine AW.reg cd12_17 fun K hK => ?_
      simp only [g12_17, bR, Nat.reduceEqDiff, reduceIte, Int.reduceBNe, Int.reduceBEq]
      cases found
      · try simp only [typR, useR, okR, e_fin, bR, Nat.reduceEqDiff, reduceIte, Int.reduceBNe, Int.reduceBEq]
        refine .done (hK _ ?_); clear hK K; simp only [thenQ, blockQ]
        simp only [better, Bool.not_false, Bool.true_or]
        refine Sub.of_lists ?_ ?_ ?_ ?_ <;> simp [subT, subO, onlyT, onlyO, isIn, look_cons, lookO_cons, lookO_nil, AV.only, AV.onlys, AO.only, onlys_map, onlys_append, e_only, e_int, e_bool]
      try simp only [typR, useR, okR, e_fin, bR, Nat.reduceEqDiff, reduceIte, Int.reduceBNe, Int.reduceBEq]
      generalize hb1 : decide ((set.length : Int) < best.length) = b1
      cases b1
      · try simp only [typR, useR, okR, e_fin, bR, Nat.reduceEqDiff, reduceIte, Int.reduceBNe, Int.reduceBEq]
        generalize hb2 : ((set.length : Int) == best.length) = b2
        cases b2
        · try simp only [typR, useR, okR, e_fin, bR, Nat.reduceEqDiff, reduceIte, Int.reduceBNe, Int.reduceBEq]
          refine .done (hK _ ?_); clear hK K; simp only [thenQ, blockQ]
          simp only [better, hb1, hb2, Bool.not_true, Bool.false_or, Bool.or_false, Bool.false_and]
          refine Sub.of_lists ?_ ?_ ?_ ?_ <;> simp [subT, subO, onlyT, onlyO, isIn, look_cons, lookO_cons, lookO_nil, AV.only, AV.onlys, AO.only, onlys_map, onlys_append, e_only, e_int, e_bool]
        try simp only [typR, useR, okR, e_fin, bR, Nat.reduceEqDiff, reduceIte, Int.reduceBNe, Int.reduceBEq]
        refine .flat _ (F66 set best) rfl ?_
        try simp only [typR, useR, okR, e_fin, bR, Nat.reduceEqDiff, reduceIte, Int.reduceBNe, Int.reduceBEq]
        refine .done (hK _ ?_); clear hK K; simp only [thenQ, blockQ]
        simp only [better, hb1, hb2, Bool.not_true, Bool.false_or, Bool.or_false, Bool.true_and]
        refine Sub.of_lists ?_ ?_ ?_ ?_ <;> simp [subT, subO, onlyT, onlyO, isIn, look_cons, lookO_cons, lookO_nil, AV.only, AV.onlys, AO.only, onlys_map, onlys_append, e_only, e_int, e_bool]
      · try simp only [typR, useR, okR, e_fin, bR, Nat.reduceEqDiff, reduceIte, Int.reduceBNe, Int.reduceBEq]
        refine .done (hK _ ?_); clear hK K; simp only [thenQ, blockQ]
        simp only [better, hb1, Bool.not_true, Bool.false_or, Bool.true_or]
        refine Sub.of_lists ?_ ?_ ?_ ?_ <;> simp [subT, subO, onlyT, onlyO, isIn, look_cons, lookO_cons, lookO_nil, AV.only, AV.onlys, AO.only, onlys_map, onlys_append, e_only, e_int, e_bool]
    simp only [thenQ, blockQ]
    refine AW.sub hB ?_
    generalize hbt : better found best set = bt at hstep
    refine AW.seq (AW.reg cd12_18 fun K hK => ?_)
    simp only [g12_18, bR, Nat.reduceEqDiff, reduceIte, Int.reduceBNe, Int.reduceBEq]
    cases bt
    · try simp only [typR, useR, okR, e_fin, bR, Nat.reduceEqDiff, reduceIte, Int.reduceBNe, Int.reduceBEq]
      refine .done (hK _ ?_); clear hK K; simp only [thenQ, blockQ]
      refine AW.ite ?_
      simp only [condQ, bR, Nat.reduceEqDiff, reduceIte, Int.reduceBNe, Int.reduceBEq]
      refine ⟨fun h => ?_, fun h => ?_⟩
      · cases h
      refine AW.skip ?_; simp only [thenQ, blockQ, reduceIte, Nat.reduceEqDiff]
      refine AW.reg cd12_20 fun K hK => ?_
      simp only [g12_20, bR, Nat.reduceEqDiff, reduceIte, Int.reduceBNe, Int.reduceBEq]
      refine .done (hK _ ?_); clear hK K; simp only [thenQ, blockQ]
      refine ⟨s + 1, by omega, by omega, ?_⟩
      rw [hstep, wrap_id _ (by omega) (by omega)]
      simp only [Bool.false_and, Bool.false_eq_true, if_false]
      refine Sub.of_lists ?_ ?_ ?_ ?_ <;> simp [subT, subO, onlyT, onlyO, isIn, look_cons, lookO_cons, lookO_nil, AV.only, AV.onlys, AO.only, onlys_map, onlys_append, e_only, e_int, e_bool]
    · try simp only [typR, useR, okR, e_fin, bR, Nat.reduceEqDiff, reduceIte, Int.reduceBNe, Int.reduceBEq]
      refine .flat _ (F67 m.wear poss set (by rw [hposs]; exact hpm) hset) rfl ?_
      try simp only [typR, useR, okR, e_fin, bR, Nat.reduceEqDiff, reduceIte, Int.reduceBNe, Int.reduceBEq]
      refine .done (hK _ ?_); clear hK K; simp only [thenQ, blockQ]
      refine AW.ite ?_
      simp only [condQ, bR, Nat.reduceEqDiff, reduceIte, Int.reduceBNe, Int.reduceBEq]
      refine ⟨fun h => ?_, fun h => ?_⟩
      · refine AW.reg cd12_19 fun K hK => ?_
        simp only [g12_19, bR, Nat.reduceEqDiff, reduceIte, Int.reduceBNe, Int.reduceBEq]
        refine .done (hK _ ?_); clear hK K; simp only [thenQ, blockQ]
        refine AW.reg cd12_20 fun K hK => ?_
        simp only [g12_20, bR, Nat.reduceEqDiff, reduceIte, Int.reduceBNe, Int.reduceBEq]
        refine .done (hK _ ?_); clear hK K; simp only [thenQ, blockQ]
        refine ⟨s + 1, by omega, by omega, ?_⟩
        rw [hstep, wrap_id _ (by omega) (by omega)]
        have h' : settled m.wear poss set = true := h
        simp only [h', Bool.true_and, if_true]
        refine Sub.of_lists ?_ ?_ ?_ ?_ <;> simp [subT, subO, onlyT, onlyO, isIn, look_cons, lookO_cons, lookO_nil, AV.only, AV.onlys, AO.only, onlys_map, onlys_append, e_only, e_int, e_bool]
      · refine AW.skip ?_; simp only [thenQ, blockQ, reduceIte, Nat.reduceEqDiff]
        refine AW.reg cd12_20 fun K hK => ?_
        simp only [g12_20, bR, Nat.reduceEqDiff, reduceIte, Int.reduceBNe, Int.reduceBEq]
        refine .done (hK _ ?_); clear hK K; simp only [thenQ, blockQ]
        refine ⟨s + 1, by omega, by omega, ?_⟩
        rw [hstep, wrap_id _ (by omega) (by omega)]
        have h' : settled m.wear poss set = false := h
        simp only [h', Bool.true_and, Bool.false_eq_true, if_false]
        refine Sub.of_lists ?_ ?_ ?_ ?_ <;> simp [subT, subO, onlyT, onlyO, isIn, look_cons, lookO_cons, lookO_nil, AV.only, AV.onlys, AO.only, onlys_map, onlys_append, e_only, e_int, e_bool]
  refine AW.seq (AW.reg cd12_4 fun K hK => ?_)
  simp only [g12_4, bR, Nat.reduceEqDiff, reduceIte, Int.reduceBNe, Int.reduceBEq]
  simp only [typR, useR, okR, e_fin, bR, Nat.reduceEqDiff, reduceIte, Int.reduceBNe, Int.reduceBEq]
  refine .obj false [(7, 25)] [] [enc m, enc r] (possPost 7 m r) rfl (F65 m r (okM_mark hw) hlen) Gvn.nil ⟨.inl ⟨(e_ren _ _).symm, e_only _ _, e_isVal _⟩, .inl ⟨(e_ren _ _).symm, e_only _ _, e_isVal _⟩, trivial⟩ ?_ ?_
  · rintro x os' (⟨_, rfl, rfl⟩ | ⟨k, rfl, rfl⟩)
    · exact Bck.nil (fun _ => rfl) (fun h => by cases h)
    · exact Bck.new1 (fun p => map_only p _) (fun h => by cases h) rfl (fun h => by cases h) rfl (by decide)
  · rintro x os' (⟨hp, rfl, rfl⟩ | ⟨k, rfl, rfl⟩)
    · simp only [e_ren, renR, List.nil_append, e_fin, bR, Nat.reduceEqDiff, reduceIte, Int.reduceBNe, Int.reduceBEq]
      refine .done (hK _ ?_); clear hK K; simp only [thenQ, blockQ]
      refine AW.sub ?_ (key _ rfl)
      rw [hposs, hp]
      refine Sub.of_lists ?_ ?_ ?_ ?_ <;> simp [subT, subO, onlyT, onlyO, isIn, look_cons, lookO_cons, lookO_nil, AV.only, AV.onlys, AO.only, onlys_map, onlys_append, e_only, e_int, e_bool]
    · simp only [rowG, renR, rens_map_enc, List.cons_append, List.nil_append, bR, Nat.reduceEqDiff, reduceIte, Int.reduceBNe, Int.reduceBEq]
      refine .done (hK _ ?_); clear hK K; simp only [thenQ, blockQ]
      refine AW.sub (Sub.freeL (y := enc poss) [25] 7 rfl ?_ ?_ ?_ ?_ ?_ ?_) (key _ rfl)
      · simp only [keepO, List.filter_cons, List.filter_nil, List.contains_cons, List.contains_nil, Nat.reduceBEq, Bool.or_false, Bool.or_true, Bool.true_or, BEq.rfl, finV_take (α := Given) (sz := 7) rfl, take_row, hposs, bR, Nat.reduceEqDiff, reduceIte, Int.reduceBNe, Int.reduceBEq]
      · simp [dropO, onlyO, AO.only, e_only]
      · simp [subT, fgt, look_cons, AV.only]
      · simp [subO, dropO, lookO_cons]
      · simp [onlyT, isIn, lookO_cons, AV.only, e_only]
      · simp [onlyO, AO.only, e_only]
end Go.Proofs.Ytkjkbpgdpnapfaa

/-
  FUNCTIONS OF mark BY CONTRACT: arePlaces, list.
-/
namespace Go.Proofs.Ytkjkbpgdpnapfaa
open Go Go.Abs
open Go.Abs.Enc (enc)
theorem F71 (l : List Int) : Ctr Try.prog 71 [enc l] (enc (okPlaces l)) := by
  refine Ctr.mk' Try.func71 ca71 cc71 cr71 (Nat.le_of_ble_eq_true rfl) (fun hwf W0 D0 E1 => ?_)
  simp only [c71, r71, idx, Nat.zero_add, Nat.reduceAdd]
  have hlen : l.length ≤ maxLen := ((wf_list l).1 hwf.1).1
  simp only [maxLen] at hlen
  refine AW.seq (AW.reg cd71_0 fun K hK => ?_)
  simp only [g71_0, bR, Nat.reduceEqDiff, reduceIte, Int.reduceBNe, Int.reduceBEq]
  refine .done (hK _ ?_); clear hK K; simp only [thenQ, blockQ]
  refine AW.seq ?_
  refine AW.seq (AW.reg cd71_1 fun K hK => ?_)
  simp only [g71_1, bR, Nat.reduceEqDiff, reduceIte, Int.reduceBNe, Int.reduceBEq]
  try simp only [typR, useR, okR, e_fin, bR, Nat.reduceEqDiff, reduceIte, Int.reduceBNe, Int.reduceBEq]
  refine .done (hK _ ?_); clear hK K; simp only [thenQ, blockQ]
  refine AW.block (AW.loop (fun i : Nat => mkA [(0, enc l), (5, enc l), (6, .int .i64 l.length), (7, .int .i64 i)] []) (fun i => i ≤ l.length ∧ ∀ j, j < i → placeAt l j = true) (fun i => l.length - i) 0 ⟨by omega, fun k h => by omega⟩ ?_ (fun i hi => ?_))
  · refine Sub.of_lists ?_ ?_ ?_ ?_ <;> simp [subT, subO, onlyT, onlyO, isIn, look_cons, lookO_cons, lookO_nil, AV.only, AV.onlys, AO.only, onlys_map, onlys_append, e_only, e_int, e_bool]
  refine AW.seq (AW.reg cd71_2 fun K hK => ?_)
  simp only [g71_2, bR, Nat.reduceEqDiff, reduceIte, Int.reduceBNe, Int.reduceBEq]
  refine .done (hK _ ?_); clear hK K; simp only [thenQ, blockQ]
  refine AW.seq ?_
  refine AW.ite ?_
  simp only [condQ, bR, Nat.reduceEqDiff, reduceIte, Int.reduceBNe, Int.reduceBEq]
  refine ⟨fun h => ?_, fun h => ?_⟩
  case refine_2.refine_2 =>
    have hge : i = l.length := by simp at h; omega
    subst hge
    refine AW.exit ?_; simp only [thenQ, blockQ, reduceIte, Nat.reduceEqDiff]
    refine AW.seq (AW.reg cd71_7 fun K hK => ?_)
    simp only [g71_7, bR, Nat.reduceEqDiff, reduceIte, Int.reduceBNe, Int.reduceBEq]
    refine .done (hK _ ?_); clear hK K; simp only [thenQ, blockQ]
    refine AW.ret ?_
    simp only [blockQ, thenQ, bR, Nat.reduceEqDiff, reduceIte, Int.reduceBNe, Int.reduceBEq]
    rw [okPlaces, all_true hi.2]
  have hlt : i < l.length := by simpa using h
  have bad : placeAt l i = false → okPlaces l = false := fun h => all_false i hlt h
  refine AW.skip ?_; simp only [thenQ, blockQ, reduceIte, Nat.reduceEqDiff]
  refine AW.seq (AW.block ?_)
  refine AW.seq (AW.reg cd71_3 fun K hK => ?_)
  simp only [g71_3, bR, Nat.reduceEqDiff, reduceIte, Int.reduceBNe, Int.reduceBEq]
  simp only [typR, useR, okR, isE_getD hlt, bR, Nat.reduceEqDiff, reduceIte, Int.reduceBNe, Int.reduceBEq]
  refine .done (hK _ ?_); clear hK K; simp only [thenQ, blockQ]
  refine AW.seq (AW.reg cd71_4 fun K hK => ?_)
  simp only [g71_4, bR, Nat.reduceEqDiff, reduceIte, Int.reduceBNe, Int.reduceBEq]
  try simp only [typR, useR, okR, e_fin, bR, Nat.reduceEqDiff, reduceIte, Int.reduceBNe, Int.reduceBEq]
  refine .flat _ (F89 (l.getD i 0) 0 5) rfl ?_
  generalize hr : inR 0 5 (l.getD i 0) = br
  cases br
  · try simp only [typR, useR, okR, e_fin, bR, Nat.reduceEqDiff, reduceIte, Int.reduceBNe, Int.reduceBEq]
    refine .done (hK _ ?_); clear hK K; simp only [thenQ, blockQ]
    refine AW.ite ?_
    simp only [condQ, bR, Nat.reduceEqDiff, reduceIte, Int.reduceBNe, Int.reduceBEq]
    refine ⟨fun h => ?_, fun h => ?_⟩
    · refine AW.seq (AW.reg cd71_5 fun K hK => ?_)
      simp only [g71_5, bR, Nat.reduceEqDiff, reduceIte, Int.reduceBNe, Int.reduceBEq]
      refine .done (hK _ ?_); clear hK K; simp only [thenQ, blockQ]
      refine AW.ret ?_
      simp only [blockQ, thenQ, bR, Nat.reduceEqDiff, reduceIte, Int.reduceBNe, Int.reduceBEq]
      rw [bad (by simp only [placeAt, hr, Bool.false_and])]
    · cases h
  try simp only [typR, useR, okR, e_fin, bR, Nat.reduceEqDiff, reduceIte, Int.reduceBNe, Int.reduceBEq]
  generalize hz : decide (0 < (i : Int)) = bz
  cases bz
  · have hz' : i = 0 := by simp at hz; omega
    try simp only [typR, useR, okR, e_fin, bR, Nat.reduceEqDiff, reduceIte, Int.reduceBNe, Int.reduceBEq]
    refine .done (hK _ ?_); clear hK K; simp only [thenQ, blockQ]
    refine AW.ite ?_
    simp only [condQ, bR, Nat.reduceEqDiff, reduceIte, Int.reduceBNe, Int.reduceBEq]
    refine ⟨fun h => ?_, fun h => ?_⟩
    · cases h
    refine AW.skip ?_; simp only [thenQ, blockQ, reduceIte, Nat.reduceEqDiff]
    refine AW.reg cd71_6 fun K hK => ?_
    simp only [g71_6, bR, Nat.reduceEqDiff, reduceIte, Int.reduceBNe, Int.reduceBEq]
    refine .done (hK _ ?_); clear hK K; simp only [thenQ, blockQ]
    refine ⟨i + 1, ⟨by omega, fun k hk' => ?_⟩, by omega, ?_⟩
    · by_cases hki : k = i
      · rw [hki, placeAt, hr]; simp [hz']
      · exact hi.2 k (by omega)
    · rw [wrap_id _ (by omega) (by omega)]
      refine Sub.of_lists ?_ ?_ ?_ ?_ <;> simp [subT, subO, onlyT, onlyO, isIn, look_cons, lookO_cons, lookO_nil, AV.only, AV.onlys, AO.only, onlys_map, onlys_append, e_only, e_int, e_bool]
  · have hpos : 0 < i := by simpa using hz
    have hpl : i - 1 < l.length := by omega
    have hpred : IntKind.i64.wrap ((i : Int) - 1) = ((i - 1 : Nat) : Int) := by rw [wrap_id _ (by omega) (by omega)]; omega
    simp only [typR, useR, okR, hpred, isE_getD hpl, isE_getD hlt, bR, Nat.reduceEqDiff, reduceIte, Int.reduceBNe, Int.reduceBEq]
    refine .done (hK _ ?_); clear hK K; simp only [thenQ, blockQ]
    refine AW.ite ?_
    simp only [condQ, bR, Nat.reduceEqDiff, reduceIte, Int.reduceBNe, Int.reduceBEq]
    refine ⟨fun h => ?_, fun h => ?_⟩
    · refine AW.seq (AW.reg cd71_5 fun K hK => ?_)
      simp only [g71_5, bR, Nat.reduceEqDiff, reduceIte, Int.reduceBNe, Int.reduceBEq]
      refine .done (hK _ ?_); clear hK K; simp only [thenQ, blockQ]
      refine AW.ret ?_
      simp only [blockQ, thenQ, bR, Nat.reduceEqDiff, reduceIte, Int.reduceBNe, Int.reduceBEq]
      have : (i == 0 || decide (l.getD (i - 1) 0 < l.getD i 0)) = false := by
        have h1 : l.getD i 0 ≤ l.getD (i - 1) 0 := of_decide_eq_true h
        have h2 : ¬ (l.getD (i - 1) 0 < l.getD i 0) := by omega
        have h3 : ¬ i = 0 := by omega
        simp only [decide_eq_false h2, Bool.or_false, beq_eq_false_iff_ne, ne_eq, h3, not_false_eq_true]
      rw [bad (by simp only [placeAt, this, Bool.and_false])]
    have hprev : (i == 0 || decide (l.getD (i - 1) 0 < l.getD i 0)) = true := by
      have h1 : ¬ (l.getD i 0 ≤ l.getD (i - 1) 0) := of_decide_eq_false h
      have h2 : l.getD (i - 1) 0 < l.getD i 0 := by omega
      simp only [decide_eq_true h2, Bool.or_true]
    refine AW.skip ?_; simp only [thenQ, blockQ, reduceIte, Nat.reduceEqDiff]
    refine AW.reg cd71_6 fun K hK => ?_
    simp only [g71_6, bR, Nat.reduceEqDiff, reduceIte, Int.reduceBNe, Int.reduceBEq]
    refine .done (hK _ ?_); clear hK K; simp only [thenQ, blockQ]
    refine ⟨i + 1, ⟨by omega, fun k hk' => ?_⟩, by omega, ?_⟩
    · by_cases hki : k = i
      · rw [hki, placeAt, hr, hprev]; rfl
      · exact hi.2 k (by omega)
    · rw [wrap_id _ (by omega) (by omega)]
      refine Sub.of_lists ?_ ?_ ?_ ?_ <;> simp [subT, subO, onlyT, onlyO, isIn, look_cons, lookO_cons, lookO_nil, AV.only, AV.onlys, AO.only, onlys_map, onlys_append, e_only, e_int, e_bool]
theorem F81 (w : Int) (h0 : 0 ≤ w) (h1 : w ≤ 31) : Ctr Try.prog 81 [enc w] (enc (members w 5)) := by
  refine Ctr.mk' Try.func81 ca81 cc81 cr81 (Nat.le_of_ble_eq_true rfl) (fun hwf W0 D0 E1 => ?_)
  simp only [c81, r81, idx, Nat.zero_add, Nat.reduceAdd]
  refine AW.seq (AW.reg cd81_0 fun K hK => ?_)
  simp only [g81_0, bR, Nat.reduceEqDiff, reduceIte, Int.reduceBNe, Int.reduceBEq]
  refine .done (hK _ ?_); clear hK K; simp only [thenQ, blockQ]
  refine AW.seq (AW.reg cd81_1 fun K hK => ?_)
  simp only [g81_1, bR, Nat.reduceEqDiff, reduceIte, Int.reduceBNe, Int.reduceBEq]
  refine .done (hK _ ?_); clear hK K; simp only [thenQ, blockQ]
  refine AW.seq ?_
  refine AW.seq (AW.reg cd81_2 fun K hK => ?_)
  simp only [g81_2, bR, Nat.reduceEqDiff, reduceIte, Int.reduceBNe, Int.reduceBEq]
  refine .done (hK _ ?_); clear hK K; simp only [thenQ, blockQ]
  refine AW.block (AW.loop (fun i : Nat => mkA [(0, .int .i64 w), (3, .own 3 (members w i).length), (5, .int .i64 i)] [(3, .row 3 1 ((members w i).map enc))]) (fun i => i ≤ 5) (fun i => 5 - i) 0 (by omega) ?_ (fun i hi => ?_))
  · refine Sub.adoptL 3 3 3 1 1 ?_ ?_ ?_
    · simp only [absR, Nat.reduceEqDiff, reduceIte]
    · simp only [absR]
    · simp only [members, List.map_nil, List.length_nil]
      refine Sub.of_lists ?_ ?_ ?_ ?_ <;> simp [subT, subO, onlyT, onlyO, isIn, look_cons, lookO_cons, lookO_nil, AV.only, AV.onlys, AO.only, onlys_map, onlys_append, e_only, e_int, e_bool]
  refine AW.seq (AW.reg cd81_3 fun K hK => ?_)
  simp only [g81_3, bR, Nat.reduceEqDiff, reduceIte, Int.reduceBNe, Int.reduceBEq]
  refine .done (hK _ ?_); clear hK K; simp only [thenQ, blockQ]
  refine AW.seq ?_
  refine AW.ite ?_
  simp only [condQ, bR, Nat.reduceEqDiff, reduceIte, Int.reduceBNe, Int.reduceBEq]
  refine ⟨fun h => ?_, fun h => ?_⟩
  · have hlt : i < 5 := by simp at h; omega
    have hml := members_le w i
    refine AW.skip ?_; simp only [thenQ, blockQ, reduceIte, Nat.reduceEqDiff]
    refine AW.seq (AW.block ?_)
    refine AW.seq (AW.reg cd81_4 fun K hK => ?_)
    simp only [g81_4, bR, Nat.reduceEqDiff, reduceIte, Int.reduceBNe, Int.reduceBEq]
    refine .done (hK _ ?_); clear hK K; simp only [thenQ, blockQ]
    refine AW.seq ?_
    refine AW.reg cd81_5 fun K hK => ?_
    simp only [g81_5, bR, Nat.reduceEqDiff, reduceIte, Int.reduceBNe, Int.reduceBEq]
    refine .flat _ (F110 w i) rfl ?_
    simp only [has_bit w h0 h1 i hlt]
    try simp only [typR, useR, okR, e_fin, bR, Nat.reduceEqDiff, reduceIte, Int.reduceBNe, Int.reduceBEq]
    refine .done (hK _ ?_); clear hK K; simp only [thenQ, blockQ]
    refine AW.ite ?_
    simp only [condQ, bR, Nat.reduceEqDiff, reduceIte, Int.reduceBNe, Int.reduceBEq]
    refine ⟨fun h => ?_, fun h => ?_⟩
    · have hb : bit w i = true := h
      refine AW.reg cd81_6 fun K hK => ?_
      simp only [g81_6, bR, Nat.reduceEqDiff, reduceIte, Int.reduceBNe, Int.reduceBEq]
      rw [appR3_enc 3 1 8 3 rfl rfl (by simp) (by simp [maxLen]; omega) (by simp; omega)]
      simp only [bR, Nat.reduceEqDiff, reduceIte, Int.reduceBNe, Int.reduceBEq]
      refine .done (hK _ ?_); clear hK K; simp only [thenQ, blockQ]
      refine AW.reg cd81_7 fun K hK => ?_
      simp only [g81_7, bR, Nat.reduceEqDiff, reduceIte, Int.reduceBNe, Int.reduceBEq]
      refine .done (hK _ ?_); clear hK K; simp only [thenQ, blockQ]
      refine ⟨i + 1, by omega, by omega, ?_⟩
      rw [wrap_id _ (by omega) (by omega)]
      simp only [members, hb, reduceIte]
      refine Sub.of_lists ?_ ?_ ?_ ?_ <;> simp [subT, subO, onlyT, onlyO, isIn, look_cons, lookO_cons, lookO_nil, AV.only, AV.onlys, AO.only, onlys_map, onlys_append, e_only, e_int, e_bool]
    · have hb : bit w i = false := h
      refine AW.skip ?_; simp only [thenQ, blockQ, reduceIte, Nat.reduceEqDiff]
      refine AW.reg cd81_7 fun K hK => ?_
      simp only [g81_7, bR, Nat.reduceEqDiff, reduceIte, Int.reduceBNe, Int.reduceBEq]
      refine .done (hK _ ?_); clear hK K; simp only [thenQ, blockQ]
      refine ⟨i + 1, by omega, by omega, ?_⟩
      rw [wrap_id _ (by omega) (by omega)]
      simp only [members, hb, reduceIte, Bool.false_eq_true, List.append_nil]
      refine Sub.of_lists ?_ ?_ ?_ ?_ <;> simp [subT, subO, onlyT, onlyO, isIn, look_cons, lookO_cons, lookO_nil, AV.only, AV.onlys, AO.only, onlys_map, onlys_append, e_only, e_int, e_bool]
  · have hge : i = 5 := by simp at h; omega
    subst hge
    refine AW.exit ?_; simp only [thenQ, blockQ, reduceIte, Nat.reduceEqDiff]
    refine AW.seq (AW.reg cd81_8 fun K hK => ?_)
    simp only [g81_8, bR, Nat.reduceEqDiff, reduceIte, Int.reduceBNe, Int.reduceBEq]
    refine .done (hK _ ?_); clear hK K; simp only [thenQ, blockQ]
    refine AW.ret ?_
    simp only [blockQ, thenQ, bR, Nat.reduceEqDiff, reduceIte, Int.reduceBNe, Int.reduceBEq]
end Go.Proofs.Ytkjkbpgdpnapfaa

/-
  FUNCTIONS OF mark BY CONTRACT: Looked.
-/
namespace Go.Proofs.Ytkjkbpgdpnapfaa
open Go Go.Abs
open Go.Abs.Enc (enc)
theorem okPlaces_in {l : List Int} (h : okPlaces l = true) : ∀ k ∈ l, 0 ≤ k ∧ k < 6 := by
  intro k hk
  simp only [okPlaces, List.all_eq_true, List.mem_range] at h
  obtain ⟨i, hi, rfl⟩ := List.getElem_of_mem hk
  have := h i hi
  simp only [placeAt, inR, List.getD_eq_getElem?_getD, List.getElem?_eq_getElem hi, Option.getD_some, Bool.and_eq_true, decide_eq_true_eq] at this
  omega
theorem F76 (m : Marks) (g : Given) (worn : Arr 6 Int) (k : Nat) (hk : k < 6) (hg : okMark g.mark = true) : Ctr Try.prog 76 (enc (k : Int) :: [.ref (enc m), .ref (enc g), .ref (enc worn)]) (enc (band (m.wear.g (g.mark.g k).toNat) (worn.g k) == 0)) := by
  refine Ctr.mk' Try.func76 ca76 cc76 cr76 (Nat.le_of_ble_eq_true rfl) (fun hwf W0 D0 E1 => ?_)
  simp only [c76, r76, idx, Nat.zero_add, Nat.reduceAdd]
  have h1 := okMark_at hg hk
  refine AW.seq (AW.reg cd76_0 fun K hK => ?_)
  simp only [g76_0, bR, Nat.reduceEqDiff, reduceIte, Int.reduceBNe, Int.reduceBEq]
  refine .done (hK _ ?_); clear hK K; simp only [thenQ, blockQ]
  refine AW.seq (AW.reg cd76_1 fun K hK => ?_)
  simp only [g76_1, bR, Nat.reduceEqDiff, reduceIte, Int.reduceBNe, Int.reduceBEq]
  try simp only [typR, useR, okR, e_fin, bR, Nat.reduceEqDiff, reduceIte, Int.reduceBNe, Int.reduceBEq]
  refine .flat _ (F77 m.wear g.mark k hk h1.1 h1.2) rfl ?_
  simp only [typR, useR, okR, inB_nat 1 worn hk rfl, atL_g worn hk, get_g worn hk, bR, Nat.reduceEqDiff, reduceIte, Int.reduceBNe, Int.reduceBEq]
  refine .flat _ (F78 _ _) rfl ?_
  try simp only [typR, useR, okR, e_fin, bR, Nat.reduceEqDiff, reduceIte, Int.reduceBNe, Int.reduceBEq]
  refine .done (hK _ ?_); clear hK K; simp only [thenQ, blockQ]
  refine AW.ret ?_
  simp only [blockQ, thenQ, bR, Nat.reduceEqDiff, reduceIte, Int.reduceBNe, Int.reduceBEq]
  simp only [bne, Bool.not_not]
def clash (w : Arr 5 Int) (worn : Arr 6 Int) (places : List Int) (g : Given) : Bool := places.any fun k => band (w.g (g.mark.g k.toNat).toNat) (worn.g k.toNat) == 0
theorem F74 (m : Marks) (g : Given) (worn : Arr 6 Int) (places : List Int) (hg : okMark g.mark = true) (hp : ∀ k ∈ places, 0 ≤ k ∧ k < 6) : Ctr Try.prog 74 (enc g :: [.ref (enc places), .ref (enc m), .ref (enc worn)]) (enc (clash m.wear worn places g)) := by
  refine Ctr.mk' Try.func74 ca74 cc74 cr74 (Nat.le_of_ble_eq_true rfl) (fun hwf W0 D0 E1 => ?_)
  simp only [c74, r74, idx, Nat.zero_add, Nat.reduceAdd]
  refine AW.seq (AW.reg cd74_0 fun K hK => ?_)
  simp only [g74_0, bR, Nat.reduceEqDiff, reduceIte, Int.reduceBNe, Int.reduceBEq]
  simp only [e_isVal, bR, Nat.reduceEqDiff, reduceIte, Int.reduceBNe, Int.reduceBEq]
  refine .done (hK _ ?_); clear hK K; simp only [thenQ, blockQ]
  refine AW.seq (AW.reg cd74_1 fun K hK => ?_)
  simp only [g74_1, bR, Nat.reduceEqDiff, reduceIte, Int.reduceBNe, Int.reduceBEq]
  try simp only [typR, useR, okR, e_fin, bR, Nat.reduceEqDiff, reduceIte, Int.reduceBNe, Int.reduceBEq]
  try simp only [List.all_cons, List.all_nil, AV.isVal, Bool.and_true, Bool.and_self, if_true, e_isVal, e_closed, e_fin, bR, Nat.reduceEqDiff, reduceIte, Int.reduceBNe, Int.reduceBEq]
  try simp only [typR, useR, okR, e_fin, bR, Nat.reduceEqDiff, reduceIte, Int.reduceBNe, Int.reduceBEq]
  refine .flat _ (F75 places 76 [.ref (enc m), .ref (enc g), .ref (enc worn)] ?_ (fun k => band (m.wear.g (g.mark.g k.toNat).toNat) (worn.g k.toNat) == 0) (fun k hk => ?_)) rfl ?_
  · simp [AV.dones, AV.done, Enc.done, e_closed]
  · have hk2 := hp k hk
    have := F76 m g worn k.toNat (by omega) hg
    rwa [show ((k.toNat : Nat) : Int) = k by omega] at this
  try simp only [typR, useR, okR, e_fin, bR, Nat.reduceEqDiff, reduceIte, Int.reduceBNe, Int.reduceBEq]
  refine .done (hK _ ?_); clear hK K; simp only [thenQ, blockQ]
  refine AW.ret ?_
  simp only [blockQ, thenQ, bR, Nat.reduceEqDiff, reduceIte, Int.reduceBNe, Int.reduceBEq]
  rfl
def lookedG (m : Marks) (r worn : Arr 6 Int) (places : List Int) : List Given := keep (clash m.wear worn places) (possG m r)
def lookedOf (m : Marks) (r worn : Arr 6 Int) (places : List Int) : List Int × Int :=
  if okM m then (if okReading r then (if okReading worn then (if okPlaces places then ((lookedG m r worn places).map (·.owner), 0) else ([], 18)) else ([], 12)) else ([], 12)) else ([], 13)
theorem F14 (m : Marks) (r worn : Arr 6 Int) (places : List Int) : Ctr Try.prog 14 [enc m, enc r, enc worn, enc places] (.tuple [enc (lookedOf m r worn places).1, enc (lookedOf m r worn places).2]) := by
  refine Ctr.mk' Try.func14 ca14 cc14 cr14 (Nat.le_of_ble_eq_true rfl) (fun hwf W0 D0 E1 => ?_)
  simp only [c14, r14, idx, Nat.zero_add, Nat.reduceAdd]
  refine AW.seq (AW.reg cd14_0 fun K hK => ?_)
  simp only [g14_0, bR, Nat.reduceEqDiff, reduceIte, Int.reduceBNe, Int.reduceBEq]
  simp only [e_isVal, bR, Nat.reduceEqDiff, reduceIte, Int.reduceBNe, Int.reduceBEq]
  refine .done (hK _ ?_); clear hK K; simp only [thenQ, blockQ]
  refine AW.seq ?_
  refine AW.seq (AW.reg cd14_1 fun K hK => ?_)
  simp only [g14_1, bR, Nat.reduceEqDiff, reduceIte, Int.reduceBNe, Int.reduceBEq]
  try simp only [typR, useR, okR, e_fin, bR, Nat.reduceEqDiff, reduceIte, Int.reduceBNe, Int.reduceBEq]
  refine .flat _ (F47 m) rfl ?_
  try simp only [typR, useR, okR, e_fin, bR, Nat.reduceEqDiff, reduceIte, Int.reduceBNe, Int.reduceBEq]
  refine .flat _ (F45 r) rfl ?_
  try simp only [typR, useR, okR, e_fin, bR, Nat.reduceEqDiff, reduceIte, Int.reduceBNe, Int.reduceBEq]
  refine .flat _ (F45 worn) rfl ?_
  simp only [typR, useR, okR, e_fin, bs3, bR, Nat.reduceEqDiff, reduceIte, Int.reduceBNe, Int.reduceBEq]
  refine .flat _ (F64 _) rfl ?_
  rw [first3 _ _ _ 13 12 12 (by decide) (by decide) (by decide)]
  simp only [bR, Nat.reduceEqDiff, reduceIte, Int.reduceBNe, Int.reduceBEq]
  refine .done (hK _ ?_); clear hK K; simp only [thenQ, blockQ]
  generalize hw : okM m = bw
  generalize hr : okReading r = br
  generalize hwo : okReading worn = bwo
  cases bw
  · refine AW.seq (AW.reg cd14_2 fun K hK => ?_)
    simp only [g14_2, bR, Nat.reduceEqDiff, reduceIte, Int.reduceBNe, Int.reduceBEq]
    refine .done (hK _ ?_); clear hK K; simp only [thenQ, blockQ]
    refine AW.ite ?_
    simp only [condQ, bR, Nat.reduceEqDiff, reduceIte, Int.reduceBNe, Int.reduceBEq]
    refine ⟨fun h => ?_, fun h => ?_⟩
    · refine AW.seq (AW.reg cd14_3 fun K hK => ?_)
      simp only [g14_3, bR, Nat.reduceEqDiff, reduceIte, Int.reduceBNe, Int.reduceBEq]
      refine .done (hK _ ?_); clear hK K; simp only [thenQ, blockQ]
      refine AW.ret ?_
      simp only [blockQ, thenQ, bR, Nat.reduceEqDiff, reduceIte, Int.reduceBNe, Int.reduceBEq]
      simp [lookedOf, hw, nilInt]
    · cases h
  cases br
  · refine AW.seq (AW.reg cd14_2 fun K hK => ?_)
    simp only [g14_2, bR, Nat.reduceEqDiff, reduceIte, Int.reduceBNe, Int.reduceBEq]
    refine .done (hK _ ?_); clear hK K; simp only [thenQ, blockQ]
    refine AW.ite ?_
    simp only [condQ, bR, Nat.reduceEqDiff, reduceIte, Int.reduceBNe, Int.reduceBEq]
    refine ⟨fun h => ?_, fun h => ?_⟩
    · refine AW.seq (AW.reg cd14_3 fun K hK => ?_)
      simp only [g14_3, bR, Nat.reduceEqDiff, reduceIte, Int.reduceBNe, Int.reduceBEq]
      refine .done (hK _ ?_); clear hK K; simp only [thenQ, blockQ]
      refine AW.ret ?_
      simp only [blockQ, thenQ, bR, Nat.reduceEqDiff, reduceIte, Int.reduceBNe, Int.reduceBEq]
      simp [lookedOf, hw, hr, nilInt]
    · cases h
  cases bwo
  · refine AW.seq (AW.reg cd14_2 fun K hK => ?_)
    simp only [g14_2, bR, Nat.reduceEqDiff, reduceIte, Int.reduceBNe, Int.reduceBEq]
    refine .done (hK _ ?_); clear hK K; simp only [thenQ, blockQ]
    refine AW.ite ?_
    simp only [condQ, bR, Nat.reduceEqDiff, reduceIte, Int.reduceBNe, Int.reduceBEq]
    refine ⟨fun h => ?_, fun h => ?_⟩
    · refine AW.seq (AW.reg cd14_3 fun K hK => ?_)
      simp only [g14_3, bR, Nat.reduceEqDiff, reduceIte, Int.reduceBNe, Int.reduceBEq]
      refine .done (hK _ ?_); clear hK K; simp only [thenQ, blockQ]
      refine AW.ret ?_
      simp only [blockQ, thenQ, bR, Nat.reduceEqDiff, reduceIte, Int.reduceBNe, Int.reduceBEq]
      simp [lookedOf, hw, hr, hwo, nilInt]
    · cases h
  refine AW.seq (AW.reg cd14_2 fun K hK => ?_)
  simp only [g14_2, bR, Nat.reduceEqDiff, reduceIte, Int.reduceBNe, Int.reduceBEq]
  refine .done (hK _ ?_); clear hK K; simp only [thenQ, blockQ]
  refine AW.ite ?_
  simp only [condQ, bR, Nat.reduceEqDiff, reduceIte, Int.reduceBNe, Int.reduceBEq]
  refine ⟨fun h => ?_, fun h => ?_⟩
  · cases h
  refine AW.skip ?_; simp only [thenQ, blockQ, reduceIte, Nat.reduceEqDiff]
  refine AW.seq ?_
  refine AW.seq (AW.reg cd14_4 fun K hK => ?_)
  simp only [g14_4, bR, Nat.reduceEqDiff, reduceIte, Int.reduceBNe, Int.reduceBEq]
  try simp only [typR, useR, okR, e_fin, bR, Nat.reduceEqDiff, reduceIte, Int.reduceBNe, Int.reduceBEq]
  refine .flat _ (F71 places) rfl ?_
  generalize hpl : okPlaces places = bp
  cases bp
  · try simp only [typR, useR, okR, e_fin, bR, Nat.reduceEqDiff, reduceIte, Int.reduceBNe, Int.reduceBEq]
    refine .done (hK _ ?_); clear hK K; simp only [thenQ, blockQ]
    refine AW.ite ?_
    simp only [condQ, bR, Nat.reduceEqDiff, reduceIte, Int.reduceBNe, Int.reduceBEq]
    refine ⟨fun h => ?_, fun h => ?_⟩
    · refine AW.seq (AW.reg cd14_5 fun K hK => ?_)
      simp only [g14_5, bR, Nat.reduceEqDiff, reduceIte, Int.reduceBNe, Int.reduceBEq]
      refine .done (hK _ ?_); clear hK K; simp only [thenQ, blockQ]
      refine AW.ret ?_
      simp only [blockQ, thenQ, bR, Nat.reduceEqDiff, reduceIte, Int.reduceBNe, Int.reduceBEq]
      simp [lookedOf, hw, hr, hwo, hpl, nilInt]
    · cases h
  try simp only [typR, useR, okR, e_fin, bR, Nat.reduceEqDiff, reduceIte, Int.reduceBNe, Int.reduceBEq]
  refine .done (hK _ ?_); clear hK K; simp only [thenQ, blockQ]
  refine AW.ite ?_
  simp only [condQ, bR, Nat.reduceEqDiff, reduceIte, Int.reduceBNe, Int.reduceBEq]
  refine ⟨fun h => ?_, fun h => ?_⟩
  · cases h
  refine AW.skip ?_; simp only [thenQ, blockQ, reduceIte, Nat.reduceEqDiff]
  have hpi := okPlaces_in hpl
  have hlen : m.given.length ≤ 1000 := by have := okM_len hw; omega
  have hps : (possG m r).length ≤ 1000 := Nat.le_trans (List.length_filter_le _ _) hlen
  have hpm : ∀ g ∈ possG m r, okMark g.mark = true := fun g hg => okM_mark hw g (possG_mem hg)
  have hld : (lookedG m r worn places).length ≤ 1000 := Nat.le_trans (List.length_filter_le _ _) hps
  have hd : AV.dones [.ref (enc places), .ref (enc m), .ref (enc worn)] = true := by simp only [AV.dones, AV.done, e_closed, Bool.and_self]
  refine AW.seq (AW.reg cd14_6 fun K hK => ?_)
  simp only [g14_6, bR, Nat.reduceEqDiff, reduceIte, Int.reduceBNe, Int.reduceBEq]
  try simp only [typR, useR, okR, e_fin, bR, Nat.reduceEqDiff, reduceIte, Int.reduceBNe, Int.reduceBEq]
  refine .obj false [(7, 27)] [] [enc m, enc r] (possPost 7 m r) rfl (F65 m r (okM_mark hw) hlen) Gvn.nil ⟨.inl ⟨(e_ren _ _).symm, e_only _ _, e_isVal _⟩, .inl ⟨(e_ren _ _).symm, e_only _ _, e_isVal _⟩, trivial⟩ ?_ ?_
  · rintro x os' (⟨_, rfl, rfl⟩ | ⟨k, rfl, rfl⟩)
    · exact Bck.nil (fun _ => rfl) (fun h => by cases h)
    · exact Bck.new1 (fun p => map_only p _) (fun h => by cases h) rfl (fun h => by cases h) rfl (by decide)
  · rintro x os' (⟨hp, rfl, rfl⟩ | ⟨k, rfl, rfl⟩)
    · have hlk : lookedG m r worn places = [] := by simp [lookedG, keep, hp]
      simp only [e_ren, renR, List.nil_append, e_fin, List.all_cons, List.all_nil, AV.isVal, Bool.and_self, e_closed, bR, Nat.reduceEqDiff, reduceIte, Int.reduceBNe, Int.reduceBEq]
      refine .free [7, 4, 6] (enc ([] : List Given)) rfl (F73n 74 [.ref (enc places), .ref (enc m), .ref (enc worn)] hd) ?_ ?_ ?_
      · simp only [keepO, List.filter_cons, List.filter_nil, List.contains_cons, List.contains_nil, Nat.reduceBEq, Bool.or_false, Bool.or_true, Bool.true_or, Bool.false_or, BEq.rfl, e_closed, e_fin, bR, Nat.reduceEqDiff, reduceIte, Int.reduceBNe, Int.reduceBEq]
      · simp [dropO, onlyO, AO.only, e_only]
      · simp only [fgt, dropO, List.filter_cons, List.filter_nil, List.contains_cons, List.contains_nil, Nat.reduceBEq, Bool.or_false, Bool.or_true, Bool.true_or, Bool.false_or, BEq.rfl, e_fin, bR, Nat.reduceEqDiff, reduceIte, Int.reduceBNe, Int.reduceBEq]
        refine .lead _ (F72 [] (by simp)) ?_
        simp only [List.map_nil, bR, Nat.reduceEqDiff, reduceIte, Int.reduceBNe, Int.reduceBEq]
        refine .done (hK _ ?_); clear hK K; simp only [thenQ, blockQ]
        refine AW.ret ?_
        simp only [blockQ, thenQ, bR, Nat.reduceEqDiff, reduceIte, Int.reduceBNe, Int.reduceBEq]
        simp only [e_fin, bR, Nat.reduceEqDiff, reduceIte, Int.reduceBNe, Int.reduceBEq]
        simp [lookedOf, hw, hr, hwo, hpl, hlk]
    · simp only [rowG, renR, rens_map_enc, List.cons_append, List.nil_append, List.all_cons, List.all_nil, AV.isVal, Bool.and_self, bR, Nat.reduceEqDiff, reduceIte, Int.reduceBNe, Int.reduceBEq]
      refine .obj true [(1000000, 27)] (rowG 1000000 (possG m r) k) [.view 1000000 [] 7 0 (possG m r).length, .func 74 [.ref (enc places), .ref (enc m), .ref (enc worn)]] (delPost 1000000 (lookedG m r worn places)) rfl
        (F73 (possG m r) 74 [.ref (enc places), .ref (enc m), .ref (enc worn)] hd (clash m.wear worn places) (fun g hg => F74 m g worn places (hpm g hg) hpi) hps k) ⟨?_, ?_⟩ ⟨.inl ⟨?_, ?_, rfl⟩, .inr ?_, trivial⟩ ?_ ?_
      · intro n x h
        simp only [rowG, lookO] at h
        split at h
        · rename_i hn'
          subst hn'
          simp only [Option.some.injEq] at h
          subst h
          exact ⟨by simp only [renR, rens_map_enc, bR, Nat.reduceEqDiff, reduceIte, Int.reduceBNe, Int.reduceBEq], map_only _ _, rfl⟩
        · cases h
      · intro a b ha hb _
        rw [isIn_one.1 ha, isIn_one.1 hb]
      · simp only [renR, bR, Nat.reduceEqDiff, reduceIte, Int.reduceBNe, Int.reduceBEq]
      · exact isIn_one.2 rfl
      · simp only [names, rowG, rnm, dropO, List.filter_cons, List.filter_nil, List.map_cons, List.map_nil, List.contains_cons, List.contains_nil, Nat.reduceBEq, Bool.or_false, Bool.or_true, Bool.true_or, Bool.false_or, BEq.rfl, e_closed, e_fin, bR, Nat.reduceEqDiff, reduceIte, Int.reduceBNe, Int.reduceBEq]
      · rintro x os' ⟨k', rfl, rfl⟩
        exact Bck.one (fun p => map_only p _) (fun _ => map_lean _) (isIn_one.2 rfl) (fun _ => rfl)
      · rintro x os' ⟨k', rfl, rfl⟩
        simp only [rowG, renR, rens_map_enc, List.cons_append, List.nil_append, bR, Nat.reduceEqDiff, reduceIte, Int.reduceBNe, Int.reduceBEq]
        refine .free [27] _ rfl (F72 (lookedG m r worn places) hld) ?_ ?_ ?_
        · simp only [keepO, List.filter_cons, List.filter_nil, List.contains_cons, List.contains_nil, Nat.reduceBEq, Bool.or_false, Bool.or_true, Bool.true_or, Bool.false_or, BEq.rfl, finV_take (α := Given) (sz := 7) rfl, take_row, bR, Nat.reduceEqDiff, reduceIte, Int.reduceBNe, Int.reduceBEq]
        · simp [dropO, onlyO, AO.only, e_only]
        · simp only [fgt, dropO, List.filter_cons, List.filter_nil, List.contains_cons, List.contains_nil, Nat.reduceBEq, Bool.or_false, Bool.or_true, Bool.true_or, Bool.false_or, BEq.rfl, AV.only, e_only, bR, Nat.reduceEqDiff, reduceIte, Int.reduceBNe, Int.reduceBEq]
          refine .done (hK _ ?_); clear hK K; simp only [thenQ, blockQ]
          refine AW.ret ?_
          simp only [blockQ, thenQ, bR, Nat.reduceEqDiff, reduceIte, Int.reduceBNe, Int.reduceBEq]
          simp only [e_fin, bR, Nat.reduceEqDiff, reduceIte, Int.reduceBNe, Int.reduceBEq]
          simp [lookedOf, hw, hr, hwo, hpl]
end Go.Proofs.Ytkjkbpgdpnapfaa

/-
  FUNCTIONS OF mark BY CONTRACT: Worn.
-/
namespace Go.Proofs.Ytkjkbpgdpnapfaa
open Go Go.Abs
open Go.Abs.Enc (enc)
theorem members_mem {w : Int} {k : Nat} (h : bit w k = true) : ∀ n, k < n → (k : Int) ∈ members w n
  | 0, h => absurd h (by omega)
  | n + 1, hk => by
    simp only [members, List.mem_append]
    rcases Nat.lt_or_ge k n with h1 | h1
    · exact .inl (members_mem h n h1)
    · have : k = n := by omega
      subst this
      right; simp [h]
theorem members_in {w : Int} : ∀ n, ∀ x ∈ members w n, 0 ≤ x ∧ x < n
  | 0 => by simp [members]
  | n + 1 => by
    intro x hx
    simp only [members, List.mem_append] at hx
    rcases hx with hx | hx
    · have := members_in n x hx; omega
    · split at hx
      · simp only [List.mem_singleton] at hx; omega
      · cases hx
theorem okWear_at {w : Arr 5 Int} (h : okWear w = true) {k : Nat} (hk : k < 5) : (0 ≤ w.g k ∧ w.g k ≤ 31) ∧ bit (w.g k) k = true := by
  simp only [okWear, List.all_eq_true, List.mem_range, Bool.and_eq_true] at h
  have := h k hk
  simp only [inR, Bool.and_eq_true, decide_eq_true_eq] at this
  exact this
/-- The place of the sign that a cut chooses. -/
def cutAt (cuts : List Int) (i n : Nat) : Nat := if 0 < cuts.length then (((cuts.getD (i % cuts.length) 0).tmod n + n).tmod n).toNat else 0
def signs (w : Arr 5 Int) (a : Arr 6 Int) (i : Nat) : List Int := members (w.g (a.g i).toNat) 5
def wornV (w : Arr 5 Int) (a : Arr 6 Int) (cuts : List Int) (i : Nat) : Int := shl 1 ((signs w a i).getD (cutAt cuts i (signs w a i).length) 0).toNat
def wornUp (w : Arr 5 Int) (a : Arr 6 Int) (cuts : List Int) : Nat → Arr 6 Int
  | 0 => zero6
  | i + 1 => upd (wornUp w a cuts i) i (wornV w a cuts i)
def wornR (w : Arr 5 Int) (a : Arr 6 Int) (cuts : List Int) : Arr 6 Int × Int := if okWear w then (if okMark a then (wornUp w a cuts 6, 0) else (zero6, 10)) else (zero6, 11)
theorem cutAt_lt (cuts : List Int) (i : Nat) {n : Nat} (hn : 0 < n) : cutAt cuts i n < n := by
  unfold cutAt
  split
  · have h1 : -(n : Int) < (cuts.getD (i % cuts.length) 0).tmod n := by
      have := Int.tmod_lt_of_pos (-(cuts.getD (i % cuts.length) 0)) (show (0 : Int) < n by omega)
      rw [Int.neg_tmod] at this; omega
    have h2 := Int.tmod_lt_of_pos ((cuts.getD (i % cuts.length) 0).tmod n + n) (show (0 : Int) < n by omega)
    have h3 : 0 ≤ ((cuts.getD (i % cuts.length) 0).tmod n + n).tmod n := Int.tmod_nonneg _ (by omega)
    omega
  · exact hn
theorem F19 (w : Arr 5 Int) (a : Arr 6 Int) (cuts : List Int) : Ctr Try.prog 19 [enc w, enc a, enc cuts] (.tuple [enc (wornR w a cuts).1, enc (wornR w a cuts).2]) := by
  refine Ctr.mk' Try.func19 ca19 cc19 cr19 (Nat.le_of_ble_eq_true rfl) (fun hwf W0 D0 E1 => ?_)
  simp only [c19, r19, idx, Nat.zero_add, Nat.reduceAdd]
  have hlen : cuts.length ≤ maxLen := ((wf_list cuts).1 hwf.2.2.1).1
  simp only [maxLen] at hlen
  refine AW.seq (AW.reg cd19_0 fun K hK => ?_)
  simp only [g19_0, bR, Nat.reduceEqDiff, reduceIte, Int.reduceBNe, Int.reduceBEq]
  simp only [e_isVal, e_zero6, bR, Nat.reduceEqDiff, reduceIte, Int.reduceBNe, Int.reduceBEq]
  refine .done (hK _ ?_); clear hK K; simp only [thenQ, blockQ]
  refine AW.seq ?_
  refine AW.seq (AW.reg cd19_1 fun K hK => ?_)
  simp only [g19_1, bR, Nat.reduceEqDiff, reduceIte, Int.reduceBNe, Int.reduceBEq]
  try simp only [typR, useR, okR, e_fin, bR, Nat.reduceEqDiff, reduceIte, Int.reduceBNe, Int.reduceBEq]
  refine .flat _ (F43 w) rfl ?_
  try simp only [typR, useR, okR, e_fin, bR, Nat.reduceEqDiff, reduceIte, Int.reduceBNe, Int.reduceBEq]
  refine .flat _ (F41 a) rfl ?_
  simp only [typR, useR, okR, e_fin, bs2, bR, Nat.reduceEqDiff, reduceIte, Int.reduceBNe, Int.reduceBEq]
  refine .flat _ (F64 _) rfl ?_
  rw [first2 _ _ 11 10 (by decide) (by decide)]
  simp only [bR, Nat.reduceEqDiff, reduceIte, Int.reduceBNe, Int.reduceBEq]
  refine .done (hK _ ?_); clear hK K; simp only [thenQ, blockQ]
  generalize hw : okWear w = bw
  generalize ha : okMark a = ba
  cases bw
  · refine AW.seq (AW.reg cd19_2 fun K hK => ?_)
    simp only [g19_2, bR, Nat.reduceEqDiff, reduceIte, Int.reduceBNe, Int.reduceBEq]
    refine .done (hK _ ?_); clear hK K; simp only [thenQ, blockQ]
    refine AW.ite ?_
    simp only [condQ, bR, Nat.reduceEqDiff, reduceIte, Int.reduceBNe, Int.reduceBEq]
    refine ⟨fun h => ?_, fun h => ?_⟩
    · refine AW.seq (AW.reg cd19_3 fun K hK => ?_)
      simp only [g19_3, bR, Nat.reduceEqDiff, reduceIte, Int.reduceBNe, Int.reduceBEq]
      simp only [setParts, e_zero6, stR3_6, bR, Nat.reduceEqDiff, reduceIte, Int.reduceBNe, Int.reduceBEq]
      refine .done (hK _ ?_); clear hK K; simp only [thenQ, blockQ]
      refine AW.ret ?_
      simp only [blockQ, thenQ, bR, Nat.reduceEqDiff, reduceIte, Int.reduceBNe, Int.reduceBEq]
      simp only [typR, e_fin, bR, Nat.reduceEqDiff, reduceIte, Int.reduceBNe, Int.reduceBEq]
      simp [wornR, hw, e_int]
    · cases h
  cases ba
  · refine AW.seq (AW.reg cd19_2 fun K hK => ?_)
    simp only [g19_2, bR, Nat.reduceEqDiff, reduceIte, Int.reduceBNe, Int.reduceBEq]
    refine .done (hK _ ?_); clear hK K; simp only [thenQ, blockQ]
    refine AW.ite ?_
    simp only [condQ, bR, Nat.reduceEqDiff, reduceIte, Int.reduceBNe, Int.reduceBEq]
    refine ⟨fun h => ?_, fun h => ?_⟩
    · refine AW.seq (AW.reg cd19_3 fun K hK => ?_)
      simp only [g19_3, bR, Nat.reduceEqDiff, reduceIte, Int.reduceBNe, Int.reduceBEq]
      simp only [setParts, e_zero6, stR3_6, bR, Nat.reduceEqDiff, reduceIte, Int.reduceBNe, Int.reduceBEq]
      refine .done (hK _ ?_); clear hK K; simp only [thenQ, blockQ]
      refine AW.ret ?_
      simp only [blockQ, thenQ, bR, Nat.reduceEqDiff, reduceIte, Int.reduceBNe, Int.reduceBEq]
      simp only [typR, e_fin, bR, Nat.reduceEqDiff, reduceIte, Int.reduceBNe, Int.reduceBEq]
      simp [wornR, hw, ha, e_int]
    · cases h
  refine AW.seq (AW.reg cd19_2 fun K hK => ?_)
  simp only [g19_2, bR, Nat.reduceEqDiff, reduceIte, Int.reduceBNe, Int.reduceBEq]
  refine .done (hK _ ?_); clear hK K; simp only [thenQ, blockQ]
  refine AW.ite ?_
  simp only [condQ, bR, Nat.reduceEqDiff, reduceIte, Int.reduceBNe, Int.reduceBEq]
  refine ⟨fun h => ?_, fun h => ?_⟩
  · cases h
  refine AW.skip ?_; simp only [thenQ, blockQ, reduceIte, Nat.reduceEqDiff]
  refine AW.seq (AW.reg cd19_4 fun K hK => ?_)
  simp only [g19_4, bR, Nat.reduceEqDiff, reduceIte, Int.reduceBNe, Int.reduceBEq]
  refine .done (hK _ ?_); clear hK K; simp only [thenQ, blockQ]
  refine AW.seq ?_
  refine AW.seq (AW.reg cd19_5 fun K hK => ?_)
  simp only [g19_5, bR, Nat.reduceEqDiff, reduceIte, Int.reduceBNe, Int.reduceBEq]
  refine .done (hK _ ?_); clear hK K; simp only [thenQ, blockQ]
  refine AW.block (AW.loop (fun i : Nat => mkA [(2, enc cuts), (3, .ptr 3 []), (4, .ptr 4 []), (6, .ptr 6 []), (9, .ptr 9 []), (23, .int .i64 i)] [(3, .box (enc w)), (4, .box (enc a)), (6, .box (enc zero6)), (9, .box (enc (wornUp w a cuts i)))]) (fun i => i ≤ 6) (fun i => 6 - i) 0 (by omega) ?_ (fun i hi => ?_))
  · simp only [e_zero6, wornUp]
    refine Sub.of_lists ?_ ?_ ?_ ?_ <;> simp [subT, subO, onlyT, onlyO, isIn, look_cons, lookO_cons, lookO_nil, AV.only, AV.onlys, AO.only, onlys_map, onlys_append, e_only, e_int, e_bool]
  refine AW.seq (AW.reg cd19_6 fun K hK => ?_)
  simp only [g19_6, bR, Nat.reduceEqDiff, reduceIte, Int.reduceBNe, Int.reduceBEq]
  refine .done (hK _ ?_); clear hK K; simp only [thenQ, blockQ]
  refine AW.seq ?_
  refine AW.ite ?_
  simp only [condQ, bR, Nat.reduceEqDiff, reduceIte, Int.reduceBNe, Int.reduceBEq]
  refine ⟨fun h => ?_, fun h => ?_⟩
  · have hi6 : i < 6 := by simp at h; omega
    refine AW.skip ?_; simp only [thenQ, blockQ, reduceIte, Nat.reduceEqDiff]
    refine AW.seq (AW.block ?_)
    refine AW.seq (AW.reg cd19_7 fun K hK => ?_)
    simp only [g19_7, bR, Nat.reduceEqDiff, reduceIte, Int.reduceBNe, Int.reduceBEq]
    refine .done (hK _ ?_); clear hK K; simp only [thenQ, blockQ]
    refine AW.seq (AW.reg cd19_8 fun K hK => ?_)
    simp only [g19_8, bR, Nat.reduceEqDiff, reduceIte, Int.reduceBNe, Int.reduceBEq]
    try simp only [typR, useR, okR, e_fin, bR, Nat.reduceEqDiff, reduceIte, Int.reduceBNe, Int.reduceBEq]
    have h1 := okMark_at ha hi6
    have h2 := okWear_at hw (show (a.g i).toNat < 5 by omega)
    refine .flat _ (F77 w a i hi6 h1.1 h1.2) rfl ?_
    try simp only [typR, useR, okR, e_fin, bR, Nat.reduceEqDiff, reduceIte, Int.reduceBNe, Int.reduceBEq]
    refine .lead _ (F81 (w.g (a.g i).toNat) h2.1.1 h2.1.2) ?_
    try simp only [typR, useR, okR, e_fin, bR, Nat.reduceEqDiff, reduceIte, Int.reduceBNe, Int.reduceBEq]
    refine .done (hK _ ?_); clear hK K; simp only [thenQ, blockQ]
    have hL : signs w a i = members (w.g (a.g i).toNat) 5 := rfl
    rw [← hL]
    have hL5 : (signs w a i).length ≤ 5 := members_le _ 5
    have hL0 : 0 < (signs w a i).length := List.length_pos_of_mem (members_mem h2.2 5 (by omega))
    have hLn : ¬ ((signs w a i).length : Int) = 0 := by omega
    have hLi : ∀ x ∈ signs w a i, 0 ≤ x ∧ x < (5 : Nat) := members_in 5
    have hV : wornV w a cuts i = shl 1 ((signs w a i).getD (cutAt cuts i (signs w a i).length) 0).toNat := rfl
    have hcl := cutAt_lt cuts i hL0
    generalize hLL : signs w a i = L at hL5 hL0 hLn hLi hV hcl ⊢
    refine AW.seq (AW.reg cd19_9 fun K hK => ?_)
    simp only [g19_9, bR, Nat.reduceEqDiff, reduceIte, Int.reduceBNe, Int.reduceBEq]
    refine .done (hK _ ?_); clear hK K; simp only [thenQ, blockQ]
    refine AW.seq ?_
    refine AW.via (mkA [(2, enc cuts), (3, .ptr 3 []), (4, .ptr 4 []), (6, .ptr 6 []), (9, .ptr 9 []), (10, .int .i64 i), (11, enc L), (12, .int .i64 (cutAt cuts i L.length)), (23, .int .i64 i)] [(3, .box (enc w)), (4, .box (enc a)), (6, .box (enc zero6)), (9, .box (enc (wornUp w a cuts i)))]) ?_ fun B hB => ?_
    · refine AW.seq (AW.reg cd19_10 fun K hK => ?_)
      simp only [g19_10, bR, Nat.reduceEqDiff, reduceIte, Int.reduceBNe, Int.reduceBEq]
      try simp only [typR, useR, okR, e_fin, bR, Nat.reduceEqDiff, reduceIte, Int.reduceBNe, Int.reduceBEq]
      refine .done (hK _ ?_); clear hK K; simp only [thenQ, blockQ]
      refine AW.ite ?_
      simp only [condQ, bR, Nat.reduceEqDiff, reduceIte, Int.reduceBNe, Int.reduceBEq]
      refine ⟨fun h => ?_, fun h => ?_⟩
      · have hcp : 0 < cuts.length := by simpa using h
        have hcn : ¬ (cuts.length : Int) = 0 := by omega
        have hm : (i : Int).tmod cuts.length = ((i % cuts.length : Nat) : Int) := Int.ofNat_tmod i cuts.length
        have hml : i % cuts.length < cuts.length := Nat.mod_lt _ hcp
        refine AW.reg cd19_11 fun K hK => ?_
        simp only [g19_11, bR, Nat.reduceEqDiff, reduceIte, Int.reduceBNe, Int.reduceBEq]
        simp only [hcn, hm, isE_getD hml, hLn, typR, useR, okR, bR, Nat.reduceEqDiff, reduceIte, Int.reduceBNe, Int.reduceBEq]
        refine .done (hK _ ?_); clear hK K; simp only [thenQ, blockQ]
        generalize hx : cuts.getD (i % cuts.length) 0 = x
        have b1 := Int.tmod_lt_of_pos x (show (0 : Int) < L.length by omega)
        have b2 : -(L.length : Int) < x.tmod L.length := by
          have := Int.tmod_lt_of_pos (-x) (show (0 : Int) < L.length by omega)
          rw [Int.neg_tmod] at this; omega
        have b3 : 0 ≤ (x.tmod L.length + L.length).tmod L.length := Int.tmod_nonneg _ (by omega)
        have hcut : ((cutAt cuts i L.length : Nat) : Int) = (x.tmod L.length + L.length).tmod L.length := by
          simp only [cutAt, if_pos hcp, hx]; omega
        rw [wrap_id _ (by omega) (by omega), ← hcut]
        refine Sub.of_lists ?_ ?_ ?_ ?_ <;> simp [subT, subO, onlyT, onlyO, isIn, look_cons, lookO_cons, lookO_nil, AV.only, AV.onlys, AO.only, onlys_map, onlys_append, e_only, e_int, e_bool]
      · have hcp : cuts.length = 0 := by simpa using h
        refine AW.skip ?_; simp only [thenQ, blockQ, reduceIte, Nat.reduceEqDiff]
        have : cutAt cuts i L.length = 0 := by simp [cutAt, hcp]
        rw [this]
        refine Sub.of_lists ?_ ?_ ?_ ?_ <;> simp [subT, subO, onlyT, onlyO, isIn, look_cons, lookO_cons, lookO_nil, AV.only, AV.onlys, AO.only, onlys_map, onlys_append, e_only, e_int, e_bool]
    simp only [thenQ, blockQ]
    refine AW.sub hB ?_
    have hin := hLi (L.getD (cutAt cuts i L.length) 0) (by rw [List.getD_eq_getElem?_getD, List.getElem?_eq_getElem hcl]; exact List.getElem_mem hcl)
    refine AW.reg cd19_12 fun K hK => ?_
    simp only [g19_12, bR, Nat.reduceEqDiff, reduceIte, Int.reduceBNe, Int.reduceBEq]
    simp only [isE_getD hcl, typR, useR, okR, bR, Nat.reduceEqDiff, reduceIte, Int.reduceBNe, Int.reduceBEq]
    have hsh : IntKind.i64.wrap (1 * 2 ^ min (L.getD (cutAt cuts i L.length) 0).toNat IntKind.i64.bits) = wornV w a cuts i := hV.symm
    rw [if_pos hin.1, hsh]
    simp only [typR, useR, okR, inB_nat 1 (wornUp w a cuts i) hi6 rfl, atL_g (wornUp w a cuts i) hi6, get_g (wornUp w a cuts i) hi6, stR3_g (wornUp w a cuts i) hi6, bR, Nat.reduceEqDiff, reduceIte, Int.reduceBNe, Int.reduceBEq]
    refine .done (hK _ ?_); clear hK K; simp only [thenQ, blockQ]
    refine AW.reg cd19_13 fun K hK => ?_
    simp only [g19_13, bR, Nat.reduceEqDiff, reduceIte, Int.reduceBNe, Int.reduceBEq]
    refine .done (hK _ ?_); clear hK K; simp only [thenQ, blockQ]
    refine ⟨i + 1, by omega, by omega, ?_⟩
    rw [wrap_id _ (by omega) (by omega), wornUp]
    refine Sub.of_lists ?_ ?_ ?_ ?_ <;> simp [subT, subO, onlyT, onlyO, isIn, look_cons, lookO_cons, lookO_nil, AV.only, AV.onlys, AO.only, onlys_map, onlys_append, e_only, e_int, e_bool]
  · have h6 : i = 6 := by simp at h; omega
    subst h6
    refine AW.exit ?_; simp only [thenQ, blockQ, reduceIte, Nat.reduceEqDiff]
    refine AW.seq (AW.reg cd19_14 fun K hK => ?_)
    simp only [g19_14, bR, Nat.reduceEqDiff, reduceIte, Int.reduceBNe, Int.reduceBEq]
    simp only [typR, stR3_6, bR, Nat.reduceEqDiff, reduceIte, Int.reduceBNe, Int.reduceBEq]
    refine .done (hK _ ?_); clear hK K; simp only [thenQ, blockQ]
    refine AW.ret ?_
    simp only [blockQ, thenQ, bR, Nat.reduceEqDiff, reduceIte, Int.reduceBNe, Int.reduceBEq]
    simp only [typR, e_fin, bR, Nat.reduceEqDiff, reduceIte, Int.reduceBNe, Int.reduceBEq]
    simp [wornR, hw, ha, e_int]
end Go.Proofs.Ytkjkbpgdpnapfaa

/-
  FUNCTIONS OF mark BY CONTRACT: Meet.
-/
namespace Go.Proofs.Ytkjkbpgdpnapfaa
open Go Go.Abs
open Go.Abs.Enc (enc)
def one (l : List Int) : Int := shl 1 (l.getD 0 0).toNat
def sg (w : Arr 5 Int) (a : Arr 6 Int) (i : Nat) : Int := w.g (a.g i).toNat
theorem bit_ne {x : Int} {k : Nat} (hx : 0 ≤ x ∧ x ≤ 31) (hk : k < 5) (h : bit x k = true) : x ≠ 0 := by
  rintro rfl
  have key : ∀ k : Fin 5, bit 0 k.1 = false := by decide +kernel
  rw [key ⟨k, hk⟩] at h; cases h
end Go.Proofs.Ytkjkbpgdpnapfaa

/-
  FUNCTIONS OF THE REFERENCE BY CONTRACT: Wears.
-/
namespace Go.Proofs.Ytkjkbpgdpnapfaa
open Go Go.Abs
open Go.Abs.Enc (enc)
def zero5 : Arr 5 Int := ⟨List.replicate 5 0, rfl⟩
theorem e_zero5 : AV.agg [.int .i64 0, .int .i64 0, .int .i64 0, .int .i64 0, .int .i64 0] = enc zero5 := rfl
def bor (a b : Int) : Int := IntKind.i64.wrap ((BitVec.ofInt IntKind.i64.bits a ||| BitVec.ofInt IntKind.i64.bits b).toNat : Int)
def wearAt (c : List Int) (k : Nat) (x : Arr 5 Int) : Arr 5 Int :=
  if at' c k % 12 < 5 then upd (upd x k (shl 1 k)) k (bor ((upd x k (shl 1 k)).g k) (shl 1 (at' c k % 12).toNat)) else upd x k (shl 1 k)
def wears (c : List Int) : Nat → Arr 5 Int
  | 0 => zero5
  | k + 1 => wearAt c k (wears c k)
theorem F34 (c : List Int) (hc : c.length ≤ 4611686018427387904) : Ctr Try.prog 34 [enc c] (enc (wears c 5)) := by
  refine Ctr.mk' Try.func34 ca34 cc34 cr34 (Nat.le_of_ble_eq_true rfl) (fun hwf W0 D0 E1 => ?_)
  simp only [c34, r34, idx, Nat.zero_add, Nat.reduceAdd]
  refine AW.seq (AW.reg cd34_0 fun K hK => ?_)
  simp only [g34_0, bR, Nat.reduceEqDiff, reduceIte, Int.reduceBNe, Int.reduceBEq]
  refine .done (hK _ ?_); clear hK K; simp only [thenQ, blockQ]
  refine AW.seq (AW.reg cd34_1 fun K hK => ?_)
  simp only [g34_1, bR, Nat.reduceEqDiff, reduceIte, Int.reduceBNe, Int.reduceBEq]
  simp only [e_zero5]
  refine .done (hK _ ?_); clear hK K; simp only [thenQ, blockQ]
  refine AW.seq (AW.seq ?_)
  refine AW.reg cd34_2 fun K hK => ?_
  simp only [g34_2, bR, Nat.reduceEqDiff, reduceIte, Int.reduceBNe, Int.reduceBEq]
  refine .done (hK _ ?_); clear hK K; simp only [thenQ, blockQ]
  refine AW.block (AW.loop (fun k : Nat => mkA [(0, enc c), (2, .ptr 2 []), (3, .ptr 3 []), (4, .int .i64 k)] [(2, .box (enc zero5)), (3, .box (enc (wears c k)))]) (fun k => k ≤ 5) (fun k => 5 - k) 0 (by omega) ?_ (fun k hk => ?_))
  · refine Sub.of_lists ?_ ?_ ?_ ?_ <;> simp [subT, subO, onlyT, onlyO, isIn, look_cons, lookO_cons, lookO_nil, AV.only, AV.onlys, AO.only, onlys_map, onlys_append, e_only, e_int, e_bool]
    all_goals rfl
  refine AW.seq (AW.seq ?_)
  refine AW.reg cd34_3 fun K hK => ?_
  simp only [g34_3, bR, Nat.reduceEqDiff, reduceIte, Int.reduceBNe, Int.reduceBEq]
  refine .done (hK _ ?_); clear hK K; simp only [thenQ, blockQ]
  refine AW.ite ?_
  simp only [condQ, bR, Nat.reduceEqDiff, reduceIte, Int.reduceBNe, Int.reduceBEq]
  refine ⟨fun h => ?_, fun h => ?_⟩
  · have hlt : k < 5 := by simp at h; omega
    refine AW.skip ?_; simp only [thenQ, blockQ, reduceIte, Nat.reduceEqDiff]
    refine AW.seq (AW.block ?_)
    refine AW.seq (AW.reg cd34_4 fun K hK => ?_)
    simp only [g34_4, bR, Nat.reduceEqDiff, reduceIte, Int.reduceBNe, Int.reduceBEq]
    simp only [useR, inB_nat 1 (wears c k) hlt rfl, atL_g (wears c k) hlt, stR3_g (wears c k) hlt, bR, Nat.reduceEqDiff, reduceIte, Int.reduceBNe, Int.reduceBEq]
    refine .done (hK _ ?_); clear hK K; simp only [thenQ, blockQ]
    refine AW.seq (AW.reg cd34_5 fun K hK => ?_)
    simp only [g34_5, bR, Nat.reduceEqDiff, reduceIte, Int.reduceBNe, Int.reduceBEq]
    simp only [e_fin, bR, Nat.reduceEqDiff, reduceIte, Int.reduceBNe, Int.reduceBEq]
    refine .flat _ (F25 c k hc) rfl ?_
    simp only [e_fin, bR, Nat.reduceEqDiff, reduceIte, Int.reduceBNe, Int.reduceBEq]
    refine .flat _ (F23 (at' c k) 12 (by omega) (by omega)) rfl ?_
    simp only [bR, Nat.reduceEqDiff, reduceIte, Int.reduceBNe, Int.reduceBEq]
    refine .done (hK _ ?_); clear hK K; simp only [thenQ, blockQ]
    refine AW.seq (AW.reg cd34_6 fun K hK => ?_)
    simp only [g34_6, bR, Nat.reduceEqDiff, reduceIte, Int.reduceBNe, Int.reduceBEq]
    refine .done (hK _ ?_); clear hK K; simp only [thenQ, blockQ]
    have h0 : 0 ≤ at' c k % 12 := Int.emod_nonneg _ (by omega)
    refine AW.ite ?_
    simp only [condQ, bR, Nat.reduceEqDiff, reduceIte, Int.reduceBNe, Int.reduceBEq]
    refine ⟨fun h => ?_, fun h => ?_⟩
    · have h5 : at' c k % 12 < 5 := by simpa using h
      have e1 : IntKind.i64.wrap (1 * 2 ^ min k IntKind.i64.bits) = shl 1 k := rfl
      refine AW.reg cd34_7 fun K hK => ?_
      simp only [g34_7, bR, Nat.reduceEqDiff, reduceIte, Int.reduceBNe, Int.reduceBEq]
      simp only [e1, useR, inB_nat 1 (upd (wears c k) k (shl 1 k)) hlt rfl, atL_g (upd (wears c k) k (shl 1 k)) hlt, h0, bR, Nat.reduceEqDiff, reduceIte, Int.reduceBNe, Int.reduceBEq]
      simp only [e1, useR, inB_nat 1 (upd (wears c k) k (shl 1 k)) hlt rfl, atL_g (upd (wears c k) k (shl 1 k)) hlt, stR3_g (upd (wears c k) k (shl 1 k)) hlt, h0, bR, Nat.reduceEqDiff, reduceIte, Int.reduceBNe, Int.reduceBEq]
      refine .done (hK _ ?_); clear hK K; simp only [thenQ, blockQ]
      refine AW.reg cd34_8 fun K hK => ?_
      simp only [g34_8, bR, Nat.reduceEqDiff, reduceIte, Int.reduceBNe, Int.reduceBEq]
      refine .done (hK _ ?_); clear hK K; simp only [thenQ, blockQ]
      refine ⟨k + 1, by omega, by omega, ?_⟩
      rw [wrap_id _ (by omega) (by omega)]
      simp only [wears, wearAt, if_pos h5]
      refine Sub.of_lists ?_ ?_ ?_ ?_ <;> simp [subT, subO, onlyT, onlyO, isIn, look_cons, lookO_cons, lookO_nil, AV.only, AV.onlys, AO.only, onlys_map, onlys_append, e_only, e_int, e_bool]
      all_goals simp [bor, shl]
    · have h5 : ¬ at' c k % 12 < 5 := by simpa using h
      refine AW.skip ?_; simp only [thenQ, blockQ, reduceIte, Nat.reduceEqDiff]
      refine AW.reg cd34_8 fun K hK => ?_
      simp only [g34_8, bR, Nat.reduceEqDiff, reduceIte, Int.reduceBNe, Int.reduceBEq]
      refine .done (hK _ ?_); clear hK K; simp only [thenQ, blockQ]
      refine ⟨k + 1, by omega, by omega, ?_⟩
      rw [wrap_id _ (by omega) (by omega)]
      simp only [wears, wearAt, if_neg h5]
      refine Sub.of_lists ?_ ?_ ?_ ?_ <;> simp [subT, subO, onlyT, onlyO, isIn, look_cons, lookO_cons, lookO_nil, AV.only, AV.onlys, AO.only, onlys_map, onlys_append, e_only, e_int, e_bool]
      all_goals simp [bor, shl]
  · have hge : k = 5 := by simp at h; omega
    subst hge
    refine AW.exit ?_; simp only [thenQ, blockQ, reduceIte, Nat.reduceEqDiff]
    refine AW.seq (AW.reg cd34_9 fun K hK => ?_)
    simp only [g34_9, bR, Nat.reduceEqDiff, reduceIte, Int.reduceBNe, Int.reduceBEq]
    simp only [typR, useR, bR, Nat.reduceEqDiff, reduceIte, Int.reduceBNe, Int.reduceBEq]
    rw [stR3_ok (e_isVal _) (by rw [e_okS]; rfl) ((e_sh _).trans (e_sh _).symm)]
    simp only [bR, Nat.reduceEqDiff, reduceIte, Int.reduceBNe, Int.reduceBEq]
    refine .done (hK _ ?_); clear hK K; simp only [thenQ, blockQ]
    refine AW.ret ?_
    simp only [blockQ, thenQ, bR, Nat.reduceEqDiff, reduceIte, Int.reduceBNe, Int.reduceBEq]
    simp only [typR, e_fin, bR, Nat.reduceEqDiff, reduceIte, Int.reduceBNe, Int.reduceBEq]
end Go.Proofs.Ytkjkbpgdpnapfaa

/-
  FUNCTIONS OF THE REFERENCE BY CONTRACT: MeetError, Meets.
-/
namespace Go.Proofs.Ytkjkbpgdpnapfaa
open Go Go.Abs
open Go.Abs.Enc (enc)
structure Pair where
  a : Arr 6 Int
  b : Arr 6 Int
instance : Enc Pair where
  enc p := .agg [enc p.a, enc p.b]
  sz := 12
  sh := .many [.many (List.replicate 6 .one), .many (List.replicate 6 .one)]
  isA := true
  done p := by simp only [AV.done, AV.dones, Enc.done, Bool.and_self]
  size p := by simp only [AV.size, AV.sizes, e_size, e_szArr, e_szInt]
  shp p := by simp only [AV.sh, AV.shs, e_sh, e_shArr, e_shInt]
  agg _ := rfl
end Go.Proofs.Ytkjkbpgdpnapfaa

/-
  WHAT Meet RETURNS IS DUE (in plain data), and the law MarkCosts by contract.
-/
namespace Go.Proofs.Ytkjkbpgdpnapfaa
open Go Go.Abs
open Go.Abs.Enc (enc)
theorem sg_in {w : Arr 5 Int} {a : Arr 6 Int} (hw : okWear w = true) (ha : okMark a = true) {i : Nat} (hi : i < 6) : (0 ≤ sg w a i ∧ sg w a i ≤ 31) ∧ sg w a i ≠ 0 := by
  have a1 := okMark_at ha hi
  have a2 := okWear_at hw (show (a.g i).toNat < 5 by omega)
  exact ⟨a2.1, bit_ne a2.1 (by omega) a2.2⟩
end Go.Proofs.Ytkjkbpgdpnapfaa

/-
  WHAT NUMBERS DESCRIBE IS IN ORDER (in plain data): wear, marks, single signs.
-/
namespace Go.Proofs.Ytkjkbpgdpnapfaa
open Go Go.Abs
open Go.Abs.Enc (enc)
theorem wear_facts : ∀ k j : Fin 5, (0 ≤ shl 1 k.1 ∧ shl 1 k.1 ≤ 31 ∧ bit (shl 1 k.1) k.1 = true) ∧ (0 ≤ bor (shl 1 k.1) (shl 1 j.1) ∧ bor (shl 1 k.1) (shl 1 j.1) ≤ 31 ∧ bit (bor (shl 1 k.1) (shl 1 j.1)) k.1 = true) := by decide +kernel
theorem wears_g (c : List Int) : ∀ n, n ≤ 5 → ∀ j, j < n → 0 ≤ (wears c n).g j ∧ (wears c n).g j ≤ 31 ∧ bit ((wears c n).g j) j = true
  | 0, _ => fun j h => absurd h (by omega)
  | n + 1, hn => fun j hj => by
    have ih := wears_g c n (by omega)
    have hn5 : n < 5 := by omega
    simp only [wears, wearAt]
    have h0 : 0 ≤ at' c n % 12 := Int.emod_nonneg _ (by decide)
    split
    · rename_i h12
      rw [g_upd _ _ _ _ hn5]
      split
      · rename_i e
        subst e
        rw [g_upd _ _ _ _ hn5, if_pos rfl]
        exact (wear_facts ⟨n, hn5⟩ ⟨(at' c n % 12).toNat, by omega⟩).2
      · rw [g_upd _ _ _ _ hn5, if_neg (by assumption)]
        exact ih j (by omega)
    · rw [g_upd _ _ _ _ hn5]
      split
      · rename_i e
        subst e
        exact (wear_facts ⟨n, hn5⟩ ⟨0, by decide⟩).1
      · exact ih j (by omega)
theorem okWear_wears (c : List Int) : okWear (wears c 5) = true := by
  simp only [okWear, List.all_eq_true, List.mem_range, Bool.and_eq_true]
  intro k hk
  obtain ⟨h1, h2, h3⟩ := wears_g c 5 (Nat.le_refl _) k hk
  simp [inR, h1, h2, h3]
theorem nd_nat (k : Nat) : nd (k : Int) 1 = ((k / 5 : Nat) : Int) ∧ nd (k : Int) 2 = ((k / 5 / 5 : Nat) : Int) ∧ nd (k : Int) 3 = ((k / 5 / 5 / 5 : Nat) : Int) ∧ nd (k : Int) 4 = ((k / 5 / 5 / 5 / 5 : Nat) : Int) ∧ nd (k : Int) 5 = ((k / 5 / 5 / 5 / 5 / 5 : Nat) : Int) := by
  have h : ∀ n : Nat, (n : Int).tdiv 5 = ((n / 5 : Nat) : Int) := fun n => Int.ofNat_tdiv n 5
  simp only [nd, h, and_self]
theorem digits_dgs (k : Nat) : digits (k : Int) 6 = dgs k := by
  obtain ⟨h1, h2, h3, h4, h5⟩ := nd_nat k
  have h : ∀ n : Nat, (n : Int).tmod 5 = ((n % 5 : Nat) : Int) := fun n => Int.ofNat_tmod n 5
  have h0 : nd (k : Int) 0 = k := rfl
  refine arr_ext ?_
  simp only [digits, upd, dgs, dg, h0, h1, h2, h3, h4, h5, h]
  rfl
theorem okMark_digits (n : Int) : okMark (digits (n % 15625) 6) = true := by
  have h0 : 0 ≤ n % 15625 := Int.emod_nonneg _ (by decide)
  have e : n % 15625 = (((n % 15625).toNat : Nat) : Int) := by omega
  rw [e, digits_dgs]
  exact okMark_dgs _
theorem sign_facts : ∀ k : Fin 5, 1 ≤ shl 1 k.1 ∧ shl 1 k.1 ≤ 31 := by decide +kernel
theorem part_facts : ∀ x y : Fin 32, ∀ k : Fin 5, band (x.1 : Int) (y.1 : Int) = 0 → band (x.1 : Int) (shl 1 k.1) = 0 ∨ band (y.1 : Int) (shl 1 k.1) = 0 := by decide +kernel
theorem cnt_add (p q s : Nat → Bool) : ∀ n, (∀ i, i < n → p i = true → q i = true ∨ s i = true) → cnt p n ≤ cnt q n + cnt s n
  | 0, _ => by simp [cnt]
  | n + 1, h => by
    have ih := cnt_add p q s n fun i hi => h i (by omega)
    have hn := h n (by omega)
    simp only [cnt]
    cases hp : p n with
    | true => rcases hn hp with h1 | h1 <;> simp only [h1, if_true] <;> (repeat' split) <;> omega
    | false => simp only [Bool.false_eq_true, if_false]; (repeat' split) <;> omega
end Go.Proofs.Ytkjkbpgdpnapfaa

/-
  THE BOOK THAT NUMBERS DESCRIBE (in plain data): it is in order.
-/
namespace Go.Proofs.Ytkjkbpgdpnapfaa
open Go Go.Abs
open Go.Abs.Enc (enc)
theorem okAt_iff {m : Marks} {i : Nat} : okAt m i = true ↔ (1 ≤ (gv m i).owner ∧ (gv m i).owner ≤ 99) ∧ okMark (gv m i).mark = true ∧ (i = 0 ∨ (gv m (i - 1)).owner < (gv m i).owner) ∧ ∀ j, j < i → tooNear m (gv m j).mark (gv m i).mark = false := by
  simp only [okAt, inR, Bool.and_eq_true, Bool.or_eq_true, decide_eq_true_eq, beq_iff_eq, List.all_eq_true, List.mem_range, Bool.not_eq_true']
theorem gv_left {w : Arr 5 Int} {f : Int} {l : List Given} {g : Given} {i : Nat} (h : i < l.length) : gv ⟨w, f, l ++ [g]⟩ i = gv ⟨w, f, l⟩ i := by
  simp only [gv, List.getD_eq_getElem?_getD, List.getElem?_append_left h]
theorem gv_last {w : Arr 5 Int} {f : Int} {l : List Given} {g : Given} : gv ⟨w, f, l ++ [g]⟩ l.length = g := by
  simp [gv, List.getD_eq_getElem?_getD]
def madeG (c : List Int) (i : Nat) (o : Int) : Given := ⟨o, digits (IntKind.i64.wrap (IntKind.i64.wrap (c.getD i 0 * 7) + i * 2503) % 15625) 6⟩
def madeStep (c : List Int) (i : Nat) (p : Int × List Given) : Int × List Given :=
  (p.1 + (1 + c.getD i 0 % 4), if p.2.any (fun h => tooNear ⟨wears c 5, at' c 5 % 2, p.2⟩ h.mark (madeG c i 0).mark) then p.2 else p.2 ++ [madeG c i (p.1 + (1 + c.getD i 0 % 4))])
def madeUp (c : List Int) : Nat → Int × List Given
  | 0 => (0, [])
  | i + 1 => if i < c.length ∧ (madeUp c i).2.length < 9 then madeStep c i (madeUp c i) else madeUp c i
def madeM (c : List Int) (n : Nat) : Marks := ⟨wears c 5, at' c 5 % 2, (madeUp c n).2⟩
/-- The book that numbers describe. -/
def made (c : List Int) : Marks := madeM c 12
theorem madeUp_stop {c : List Int} {i : Nat} (h : ¬ (i < c.length ∧ (madeUp c i).2.length < 9)) : ∀ n, i ≤ n → madeUp c n = madeUp c i
  | 0, hn => by have : i = 0 := by omega
                subst this; rfl
  | n + 1, hn => by
    by_cases e : i = n + 1
    · subst e; rfl
    · have ih := madeUp_stop h n (by omega)
      simp only [madeUp, ih]
      rw [if_neg]
      intro hh; exact h ⟨by omega, hh.2⟩
theorem mod4 (n : Int) : 0 ≤ n % 4 ∧ n % 4 < 4 := ⟨Int.emod_nonneg _ (by decide), Int.emod_lt_of_pos _ (by decide)⟩
theorem made_ok (c : List Int) : ∀ n, (0 ≤ (madeUp c n).1 ∧ (madeUp c n).1 ≤ 4 * n) ∧ (madeUp c n).2.length ≤ 9 ∧ (madeUp c n).2.length ≤ n ∧ (∀ i, i < (madeUp c n).2.length → (gv (madeM c n) i).owner ≤ (madeUp c n).1) ∧ (n ≤ 12 → ∀ i, i < (madeUp c n).2.length → okAt (madeM c n) i = true)
  | 0 => by simp [madeUp]
  | n + 1 => by
    obtain ⟨h1, h2, h3, h4, h5⟩ := made_ok c n
    have m4 := mod4 (c.getD n 0)
    by_cases hc : n < c.length ∧ (madeUp c n).2.length < 9
    · have hM : madeM c n = ⟨wears c 5, at' c 5 % 2, (madeUp c n).2⟩ := rfl
      have hM1 : madeM c (n + 1) = ⟨wears c 5, at' c 5 % 2, (madeUp c (n + 1)).2⟩ := rfl
      have hU : madeUp c (n + 1) = madeStep c n (madeUp c n) := by simp only [madeUp, if_pos hc]
      rw [hM1, hU]
      rw [hM] at h4 h5
      generalize madeUp c n = p at h1 h2 h3 h4 h5 hc
      obtain ⟨o, l⟩ := p
      simp only at h1 h2 h3 h4 h5 hc
      simp only [madeStep]
      split
      · refine ⟨by omega, h2, by omega, fun i hi => ?_, fun hn i hi => ?_⟩
        · have := h4 i hi; omega
        · exact h5 (by omega) i hi
      · rename_i hany
        have hnear : ∀ g ∈ l, tooNear ⟨wears c 5, at' c 5 % 2, l⟩ g.mark (madeG c n 0).mark = false := by
          intro g hg
          cases hh : tooNear ⟨wears c 5, at' c 5 % 2, l⟩ g.mark (madeG c n 0).mark with
          | false => rfl
          | true => exact absurd (List.any_eq_true.2 ⟨g, hg, hh⟩) hany
        have ow : (madeG c n (o + (1 + c.getD n 0 % 4))).owner = o + (1 + c.getD n 0 % 4) := rfl
        have mk : (madeG c n (o + (1 + c.getD n 0 % 4))).mark = (madeG c n 0).mark := rfl
        generalize hg : madeG c n (o + (1 + c.getD n 0 % 4)) = g at ow mk
        have hmk : okMark g.mark = true := by rw [mk]; exact okMark_digits _
        refine ⟨by omega, by simp; omega, by simp; omega, fun i hi => ?_, fun hn i hi => ?_⟩
        · simp only [List.length_append, List.length_singleton] at hi
          by_cases e : i = l.length
          · subst e; rw [gv_last]; omega
          · rw [gv_left (by omega)]; have := h4 i (by omega); omega
        · simp only [List.length_append, List.length_singleton] at hi
          by_cases e : i = l.length
          · subst e
            rw [okAt_iff, gv_last]
            refine ⟨by omega, hmk, ?_, fun j hj => ?_⟩
            · by_cases e0 : l.length = 0
              · exact .inl e0
              · right
                rw [gv_left (by omega), ow]
                have := h4 (l.length - 1) (by omega)
                omega
            · rw [gv_left hj, mk]
              have := hnear (gv ⟨wears c 5, at' c 5 % 2, l⟩ j) (by rw [← gv_eq hj]; exact List.getElem_mem hj)
              exact this
          · have hi' : i < l.length := by omega
            have := h5 (by omega) i hi'
            rw [okAt_iff] at this ⊢
            rw [gv_left hi']
            refine ⟨this.1, this.2.1, ?_, fun j hj => ?_⟩
            · rcases this.2.2.1 with h | h
              · exact .inl h
              · right; rw [gv_left (by omega)]; exact h
            · rw [gv_left (by omega)]; exact this.2.2.2 j hj
    · have hU : madeUp c (n + 1) = madeUp c n := by simp only [madeUp, if_neg hc]
      have hM : madeM c (n + 1) = madeM c n := by simp only [madeM, hU]
      rw [hU, hM]
      exact ⟨by omega, h2, by omega, h4, fun hn => h5 (by omega)⟩
theorem okM_madeM (c : List Int) {n : Nat} (hn : n ≤ 12) : okM (madeM c n) = true := by
  obtain ⟨h1, h2, h3, h4, h5⟩ := made_ok c n
  have m2 : 0 ≤ at' c 5 % 2 ∧ at' c 5 % 2 < 2 := ⟨Int.emod_nonneg _ (by decide), Int.emod_lt_of_pos _ (by decide)⟩
  have e1 : inR 0 2 (at' c 5 % 2) = true := by simp [inR, m2.1]; omega
  have e2 : decide ((madeUp c n).2.length ≤ 40) = true := by simp; omega
  have e3 : (List.range (madeUp c n).2.length).all (okAt (madeM c n)) = true := by
    simp only [List.all_eq_true, List.mem_range]; exact h5 hn
  simp only [madeM] at e3
  simp only [okM, madeM, okWear_wears, e1, e3, Bool.true_and, Bool.and_true]
  exact e2
theorem okM_made (c : List Int) : okM (made c) = true := okM_madeM c (Nat.le_refl _)
theorem made_len (c : List Int) : (made c).given.length ≤ 9 := (made_ok c 12).2.1
end Go.Proofs.Ytkjkbpgdpnapfaa

/-
  FUNCTIONS OF THE REFERENCE BY CONTRACT: settles.
-/
namespace Go.Proofs.Ytkjkbpgdpnapfaa
open Go Go.Abs
open Go.Abs.Enc (enc)
end Go.Proofs.Ytkjkbpgdpnapfaa

/-
  FUNCTIONS OF THE REFERENCE BY CONTRACT: Looked.
-/
namespace Go.Proofs.Ytkjkbpgdpnapfaa
open Go Go.Abs
open Go.Abs.Enc (enc)
structure Sights where
  first : Arr 6 Int
  again : Arr 6 Int
  places : List Int
instance : Enc Sights where
  enc p := .agg [enc p.first, enc p.again, enc p.places]
  sz := 13
  sh := .many [.many (List.replicate 6 .one), .many (List.replicate 6 .one), .one]
  isA := true
  done p := by simp only [AV.done, AV.dones, Enc.done, Bool.and_self]
  size p := by simp only [AV.size, AV.sizes, e_size, e_szArr, e_szInt, e_szList]
  shp p := by simp only [AV.sh, AV.shs, e_sh, e_shArr, e_shInt, e_shList]
  agg _ := rfl
end Go.Proofs.Ytkjkbpgdpnapfaa

/-
  THE LAW's OWN CHECK OF THE BOOK IT KNOWS, BY CONTRACT: sane.
-/
namespace Go.Proofs.Ytkjkbpgdpnapfaa
open Go Go.Abs
open Go.Abs.Enc (enc)
def rd1 : Arr 6 Int := a6 31 1 1 1 1 31
def wn1 : Arr 6 Int := a6 16 1 1 1 1 1
theorem sOwn : ownersOf bookM rd1 = ([1, 2, 3], 0) := by decide +kernel
theorem sLook : lookOf bookM rd1 = ([0], 0) := by decide +kernel
theorem sLooked : lookedOf bookM rd1 wn1 [0] = ([3], 0) := by decide +kernel
theorem sDist : distR bookM.wear (a6 2 1 0 0 0 0) (a6 3 2 0 0 0 0) = (2, 0) := by decide +kernel
theorem sWorn1 : (wornR bookM.wear (a6 3 1 0 0 0 0) [1, 0]).1 = wn1 := arr_ext (by decide +kernel)
theorem sWorn2 : (wornR bookM.wear (a6 3 1 0 0 0 0) [1, 0]).2 = 0 := by decide +kernel
theorem sNextK : nextK bookM = some 2 := find_range _ (by omega) (by decide +kernel) (fun j hj => by
  match j, hj with
  | 0, _ => decide +kernel
  | 1, _ => decide +kernel
  | n + 2, h => exact absurd h (by omega))
theorem sNext1 : (nextOf bookM).1 = a6 0 0 0 0 0 2 := by
  have h1 : okM bookM = true := by decide +kernel
  have h2 : ¬ bookM.given.length = 40 := by decide +kernel
  simp only [nextOf, h1, if_true, if_neg h2, sNextK]
  exact arr_ext (by decide +kernel)
theorem sNext2 : (nextOf bookM).2 = 0 := by
  have h1 : okM bookM = true := by decide +kernel
  have h2 : ¬ bookM.given.length = 40 := by decide +kernel
  simp only [nextOf, h1, if_true, if_neg h2, sNextK]
theorem F21 : Ctr Try.prog 21 [] (enc true) := by
  refine Ctr.mk' Try.func21 ca21 cc21 cr21 (Nat.le_of_ble_eq_true rfl) (fun hwf W0 D0 E1 => ?_)
  simp only [c21, r21, idx, Nat.zero_add, Nat.reduceAdd]
  refine AW.seq (AW.reg cd21_0 fun K hK => ?_)
  simp only [g21_0, bR, Nat.reduceEqDiff, reduceIte, Int.reduceBNe, Int.reduceBEq]
  refine .done (hK _ ?_); clear hK K; simp only [thenQ, blockQ]
  refine AW.seq (AW.reg cd21_1 fun K hK => ?_)
  simp only [g21_1, bR, Nat.reduceEqDiff, reduceIte, Int.reduceBNe, Int.reduceBEq]
  refine .lead _ F82 ?_
  simp only [e_a5, bR, Nat.reduceEqDiff, reduceIte, Int.reduceBNe, Int.reduceBEq]
  rw [stR3_ok (e_isVal _) (by rw [e_okS]; rfl) ((e_sh _).trans rfl)]
  simp only [setAt_nil, bR, Nat.reduceEqDiff, reduceIte, Int.reduceBNe, Int.reduceBEq]
  refine .done (hK _ ?_); clear hK K; simp only [thenQ, blockQ]
  refine AW.seq (AW.reg cd21_2 fun K hK => ?_)
  simp only [g21_2, bR, Nat.reduceEqDiff, reduceIte, Int.reduceBNe, Int.reduceBEq]
  simp only [bld6, e_a6, stR3_6, bR, Nat.reduceEqDiff, reduceIte, Int.reduceBNe, Int.reduceBEq]
  refine .done (hK _ ?_); clear hK K; simp only [thenQ, blockQ]
  refine AW.seq (AW.reg cd21_3 fun K hK => ?_)
  simp only [g21_3, bR, Nat.reduceEqDiff, reduceIte, Int.reduceBNe, Int.reduceBEq]
  try simp only [typR, useR, okR, e_fin, bR, Nat.reduceEqDiff, reduceIte, Int.reduceBNe, Int.reduceBEq]
  refine .lead _ (F26 bookM rd1) ?_
  simp only [sOwn, typR, bR, Nat.reduceEqDiff, reduceIte, Int.reduceBNe, Int.reduceBEq]
  refine .done (hK _ ?_); clear hK K; simp only [thenQ, blockQ]
  refine AW.seq (AW.reg cd21_4 fun K hK => ?_)
  simp only [g21_4, bR, Nat.reduceEqDiff, reduceIte, Int.reduceBNe, Int.reduceBEq]
  try simp only [typR, useR, okR, e_fin, bR, Nat.reduceEqDiff, reduceIte, Int.reduceBNe, Int.reduceBEq]
  refine .lead _ (F12 bookM rd1) ?_
  simp only [sLook, typR, bR, Nat.reduceEqDiff, reduceIte, Int.reduceBNe, Int.reduceBEq]
  refine .done (hK _ ?_); clear hK K; simp only [thenQ, blockQ]
  refine AW.seq (AW.reg cd21_5 fun K hK => ?_)
  simp only [g21_5, bR, Nat.reduceEqDiff, reduceIte, Int.reduceBNe, Int.reduceBEq]
  simp only [typR, useR, okR, e_fin, bld6, e_a6, bR, Nat.reduceEqDiff, reduceIte, Int.reduceBNe, Int.reduceBEq]
  refine .lead _ (F14 bookM rd1 wn1 [0]) ?_
  simp only [sLooked, typR, bR, Nat.reduceEqDiff, reduceIte, Int.reduceBNe, Int.reduceBEq]
  refine .done (hK _ ?_); clear hK K; simp only [thenQ, blockQ]
  refine AW.seq (AW.reg cd21_6 fun K hK => ?_)
  simp only [g21_6, bR, Nat.reduceEqDiff, reduceIte, Int.reduceBNe, Int.reduceBEq]
  try simp only [typR, useR, okR, e_fin, bR, Nat.reduceEqDiff, reduceIte, Int.reduceBNe, Int.reduceBEq]
  refine .lead _ (F55 bookM) ?_
  simp only [sNext1, sNext2, typR, e_a6, stR3_6, bR, Nat.reduceEqDiff, reduceIte, Int.reduceBNe, Int.reduceBEq]
  refine .done (hK _ ?_); clear hK K; simp only [thenQ, blockQ]
  refine AW.seq (AW.reg cd21_7 fun K hK => ?_)
  simp only [g21_7, bR, Nat.reduceEqDiff, reduceIte, Int.reduceBNe, Int.reduceBEq]
  simp only [typR, useR, okR, e_fin, bld6, e_a6, bR, Nat.reduceEqDiff, reduceIte, Int.reduceBNe, Int.reduceBEq]
  refine .lead _ (F36 bookM.wear (a6 2 1 0 0 0 0) (a6 3 2 0 0 0 0)) ?_
  simp only [sDist, typR, bR, Nat.reduceEqDiff, reduceIte, Int.reduceBNe, Int.reduceBEq]
  refine .done (hK _ ?_); clear hK K; simp only [thenQ, blockQ]
  refine AW.seq (AW.reg cd21_8 fun K hK => ?_)
  simp only [g21_8, bR, Nat.reduceEqDiff, reduceIte, Int.reduceBNe, Int.reduceBEq]
  simp only [typR, useR, okR, e_fin, bld6, e_a6, bs2, bR, Nat.reduceEqDiff, reduceIte, Int.reduceBNe, Int.reduceBEq]
  refine .lead _ (F19 bookM.wear (a6 3 1 0 0 0 0) [1, 0]) ?_
  simp only [sWorn1, sWorn2, typR, e_a6, stR3_6, bR, Nat.reduceEqDiff, reduceIte, Int.reduceBNe, Int.reduceBEq]
  refine .done (hK _ ?_); clear hK K; simp only [thenQ, blockQ]
  refine AW.seq (AW.reg cd21_9 fun K hK => ?_)
  simp only [g21_9, bR, Nat.reduceEqDiff, reduceIte, Int.reduceBNe, Int.reduceBEq]
  try simp only [typR, useR, okR, e_fin, bR, Nat.reduceEqDiff, reduceIte, Int.reduceBNe, Int.reduceBEq]
  refine .done (hK _ ?_); clear hK K; simp only [thenQ, blockQ]
  refine AW.seq (AW.reg cd21_10 fun K hK => ?_)
  simp only [g21_10, bR, Nat.reduceEqDiff, reduceIte, Int.reduceBNe, Int.reduceBEq]
  simp only [typR, useR, okR, e_fin, bs3, bR, Nat.reduceEqDiff, reduceIte, Int.reduceBNe, Int.reduceBEq]
  refine .flat _ (F16 [1, 2, 3] [1, 2, 3]) rfl ?_
  simp only [typR, useR, okR, e_fin, decide_true, bR, Nat.reduceEqDiff, reduceIte, Int.reduceBNe, Int.reduceBEq]
  refine .flat _ (F16 [0] [0]) rfl ?_
  simp only [typR, useR, okR, e_fin, decide_true, bR, Nat.reduceEqDiff, reduceIte, Int.reduceBNe, Int.reduceBEq]
  refine .flat _ (F16 [3] [3]) rfl ?_
  simp only [typR, useR, okR, e_fin, decide_true, bld6, e_a6, eqE_arr, bR, Nat.reduceEqDiff, reduceIte, Int.reduceBNe, Int.reduceBEq]
  refine .done (hK _ ?_); clear hK K; simp only [thenQ, blockQ]
  refine AW.ret ?_
  simp only [blockQ, thenQ, bR, Nat.reduceEqDiff, reduceIte, Int.reduceBNe, Int.reduceBEq]
  rfl
end Go.Proofs.Ytkjkbpgdpnapfaa

/-
  FUNCTIONS BY CONTRACT: Of, of mark.
-/
namespace Go.Proofs.Ytkjkbpgdpnapfaa
open Go Go.Abs
open Go.Abs.Enc (enc)
end Go.Proofs.Ytkjkbpgdpnapfaa

/-
  READ ARIGHT (in plain data): readings of a worn mark with false places, with more signs and with fewer.
-/
namespace Go.Proofs.Ytkjkbpgdpnapfaa
open Go Go.Abs
open Go.Abs.Enc (enc)
theorem cnt_zero {p : Nat → Bool} : ∀ n, (∀ i, i < n → p i = false) → cnt p n = 0
  | 0, _ => rfl
  | n + 1, h => by simp only [cnt, cnt_zero n fun i hi => h i (by omega), h n (by omega)]; rfl
theorem cnt_mono (p q : Nat → Bool) (n : Nat) (h : ∀ i, i < n → p i = true → q i = true) : cnt p n ≤ cnt q n := by
  have := cnt_add p q (fun _ => false) n fun i hi hp => .inl (h i hi hp)
  rw [cnt_zero (p := fun _ => false) n fun _ _ => rfl] at this; omega
theorem cnt_one (k : Nat) : ∀ n, cnt (fun i => i == k) n = if k < n then 1 else 0
  | 0 => by simp [cnt]
  | n + 1 => by
    simp only [cnt, cnt_one k n]
    by_cases h : n = k
    · subst h; simp
    · have h2 : (n == k) = false := by simp [h]
      simp only [h2, Bool.false_eq_true, if_false]
      by_cases h3 : k < n
      · rw [if_pos h3, if_pos (by omega)]
      · rw [if_neg h3, if_neg (by omega)]
theorem cnt_but (p q : Nat → Bool) (k n : Nat) (h : ∀ i, i < n → i ≠ k → p i = true → q i = true) : cnt p n ≤ cnt q n + 1 := by
  have := cnt_add p q (fun i => i == k) n fun i hi hp => by
    by_cases e : i = k
    · right; simp [e]
    · exact .inl (h i hi e hp)
  rw [cnt_one] at this
  split at this <;> omega
theorem okReading_at {r : Arr 6 Int} (h : okReading r = true) {j : Nat} (hj : j < 6) : 1 ≤ r.g j ∧ r.g j ≤ 31 := by
  simp only [okReading, List.all_eq_true, List.mem_range] at h
  have := h j hj
  simpa only [inR, Bool.and_eq_true, decide_eq_true_eq] using this
theorem okReading_of {r : Arr 6 Int} (h : ∀ j, j < 6 → 1 ≤ r.g j ∧ r.g j ≤ 31) : okReading r = true := by
  simp only [okReading, List.all_eq_true, List.mem_range]
  intro j hj
  simp [inR, h j hj]
theorem band_comm (a b : Int) : band a b = band b a := by simp only [band, BitVec.and_comm]
theorem apart_comm (w : Arr 5 Int) (a b : Arr 6 Int) : cnt (apartAt w a b) 6 = cnt (apartAt w b a) 6 := by
  have : apartAt w a b = apartAt w b a := by funext i; simp only [apartAt, band_comm]
  rw [this]
/-- One sign at a place. -/
def oneAt (r : Arr 6 Int) (j : Nat) : Prop := ∃ k : Nat, k < 5 ∧ r.g j = shl 1 k
theorem okReading_one {r : Arr 6 Int} (h : ∀ j, j < 6 → oneAt r j) : okReading r = true := okReading_of fun j hj => by
  obtain ⟨k, hk, e⟩ := h j hj
  rw [e]; exact sign_facts ⟨k, hk⟩
theorem members_bit {w : Int} : ∀ n, ∀ x ∈ members w n, bit w x.toNat = true
  | 0 => by simp [members]
  | n + 1 => by
    intro x hx
    simp only [members, List.mem_append] at hx
    rcases hx with hx | hx
    · exact members_bit n x hx
    · split at hx
      · rename_i h
        simp only [List.mem_singleton] at hx
        subst hx; simpa using h
      · cases hx
theorem wornV_is {w : Arr 5 Int} {a : Arr 6 Int} (hw : okWear w = true) (ha : okMark a = true) (c : List Int) {j : Nat} (hj : j < 6) : ∃ k : Nat, k < 5 ∧ wornV w a c j = shl 1 k ∧ bit (w.g (a.g j).toNat) k = true := by
  have a1 := okMark_at ha hj
  have a2 := okWear_at hw (show (a.g j).toNat < 5 by omega)
  have hp : 0 < (signs w a j).length := List.length_pos_of_mem (members_mem a2.2 5 (by omega))
  have hc := cutAt_lt c j hp
  have hm : (signs w a j).getD (cutAt c j (signs w a j).length) 0 ∈ signs w a j := by rw [List.getD_eq_getElem?_getD, List.getElem?_eq_getElem hc]; exact List.getElem_mem hc
  have h1 := members_in 5 _ hm
  exact ⟨((signs w a j).getD (cutAt c j (signs w a j).length) 0).toNat, by omega, rfl, members_bit 5 _ hm⟩
theorem wornUp_g (w : Arr 5 Int) (a : Arr 6 Int) (c : List Int) : ∀ n, n ≤ 6 → ∀ j, j < n → (wornUp w a c n).g j = wornV w a c j
  | 0, _ => fun j h => absurd h (by omega)
  | n + 1, hn => fun j hj => by
    simp only [wornUp]
    rw [g_upd _ _ _ _ (by omega)]
    split
    · rename_i e; subst e; rfl
    · exact wornUp_g w a c n (by omega) j (by omega)
theorem worn_one {w : Arr 5 Int} {a : Arr 6 Int} (hw : okWear w = true) (ha : okMark a = true) (c : List Int) : ∀ j, j < 6 → oneAt (wornUp w a c 6) j := fun j hj => by
  obtain ⟨k, hk, e, _⟩ := wornV_is hw ha c hj
  exact ⟨k, hk, by rw [wornUp_g w a c 6 (Nat.le_refl _) j hj, e]⟩
theorem worn_cost {w : Arr 5 Int} {a : Arr 6 Int} (hw : okWear w = true) (ha : okMark a = true) (c : List Int) : costOf w a (wornUp w a c 6) = 0 := by
  have : cnt (costAt w a (wornUp w a c 6)) 6 = 0 := cnt_zero 6 fun j hj => by
    obtain ⟨k, hk, e, hb⟩ := wornV_is hw ha c hj
    simp only [costAt, wornUp_g w a c 6 (Nat.le_refl _) j hj, e]
    simpa [bit] using hb
  simp only [costOf, this]; rfl
/-- False places. -/
def falseUp (c : List Int) (p q : Int) (x : Arr 6 Int) : Nat → Arr 6 Int
  | 0 => x
  | i + 1 => upd (falseUp c p q x i) (at' c (i + p) % 6).toNat (shl 1 (at' c (i + q) % 5).toNat)
theorem mod6 (n : Int) : 0 ≤ n % 6 ∧ n % 6 < 6 := ⟨Int.emod_nonneg _ (by decide), Int.emod_lt_of_pos _ (by decide)⟩
theorem mod5 (n : Int) : 0 ≤ n % 5 ∧ n % 5 < 5 := ⟨Int.emod_nonneg _ (by decide), Int.emod_lt_of_pos _ (by decide)⟩
theorem mod32 (n : Int) : 0 ≤ n % 32 ∧ n % 32 < 32 := ⟨Int.emod_nonneg _ (by decide), Int.emod_lt_of_pos _ (by decide)⟩
theorem false_one {c : List Int} {p q : Int} {x : Arr 6 Int} (h : ∀ j, j < 6 → oneAt x j) : ∀ n, ∀ j, j < 6 → oneAt (falseUp c p q x n) j
  | 0 => h
  | n + 1 => fun j hj => by
    have h6 := mod6 (at' c (n + p))
    have h5 := mod5 (at' c (n + q))
    simp only [falseUp, oneAt]
    rw [g_upd _ _ _ _ (by omega)]
    split
    · exact ⟨_, by omega, rfl⟩
    · exact false_one h n j hj
theorem upd_cost (w : Arr 5 Int) (a x : Arr 6 Int) {k : Nat} (hk : k < 6) (v : Int) : costOf w a (upd x k v) ≤ costOf w a x + 1 := by
  have := cnt_but (costAt w a (upd x k v)) (costAt w a x) k 6 fun i hi e h => by
    simp only [costAt] at h ⊢
    rw [g_upd _ _ _ _ hk, if_neg (fun h => e h.symm)] at h
    exact h
  simp only [costOf]; omega
theorem false_cost (w : Arr 5 Int) (a : Arr 6 Int) (c : List Int) (p q : Int) (x : Arr 6 Int) : ∀ n : Nat, costOf w a (falseUp c p q x n) ≤ costOf w a x + n
  | 0 => by simp [falseUp]
  | n + 1 => by
    have h6 := mod6 (at' c (n + p))
    have := false_cost w a c p q x n
    have := upd_cost w a (falseUp c p q x n) (k := (at' c (n + p) % 6).toNat) (by omega) (shl 1 (at' c (n + q) % 5).toNat)
    simp only [falseUp]; omega
theorem bor_in : ∀ y z : Fin 32, 0 ≤ bor (y.1 : Int) (z.1 : Int) ∧ bor (y.1 : Int) (z.1 : Int) ≤ 31 ∧ ((y.1 : Int) ≠ 0 → bor (y.1 : Int) (z.1 : Int) ≠ 0) := by decide +kernel
theorem bor_bit : ∀ y z : Fin 32, ∀ k : Fin 5, bit (y.1 : Int) k.1 = true → bit (bor (y.1 : Int) (z.1 : Int)) k.1 = true := by decide +kernel
theorem band_bit : ∀ x y : Fin 32, band (x.1 : Int) (y.1 : Int) = 0 ↔ ∀ k : Fin 5, ¬ (bit (x.1 : Int) k.1 = true ∧ bit (y.1 : Int) k.1 = true) := by decide +kernel
theorem bor_le {y z : Int} (hy : 1 ≤ y ∧ y ≤ 31) (hz : 0 ≤ z ∧ z < 32) : 1 ≤ bor y z ∧ bor y z ≤ 31 := by
  have := bor_in ⟨y.toNat, by omega⟩ ⟨z.toNat, by omega⟩
  simp only [show ((y.toNat : Nat) : Int) = y by omega, show ((z.toNat : Nat) : Int) = z by omega] at this
  have := this.2.2 (by omega)
  omega
theorem bor_meets {x y z : Int} (hx : 0 ≤ x ∧ x ≤ 31) (hy : 0 ≤ y ∧ y ≤ 31) (hz : 0 ≤ z ∧ z < 32) (h : band x (bor y z) = 0) : band x y = 0 := by
  have b1 := bor_in ⟨y.toNat, by omega⟩ ⟨z.toNat, by omega⟩
  have b2 := bor_bit ⟨y.toNat, by omega⟩ ⟨z.toNat, by omega⟩
  have b3 := band_bit ⟨x.toNat, by omega⟩ ⟨y.toNat, by omega⟩
  simp only [show ((y.toNat : Nat) : Int) = y by omega, show ((z.toNat : Nat) : Int) = z by omega] at b1 b2
  have b4 := band_bit ⟨x.toNat, by omega⟩ ⟨(bor y z).toNat, by omega⟩
  simp only [show ((x.toNat : Nat) : Int) = x by omega, show ((y.toNat : Nat) : Int) = y by omega] at b3
  simp only [show ((x.toNat : Nat) : Int) = x by omega, show (((bor y z).toNat : Nat) : Int) = bor y z by omega] at b4
  exact b3.2 fun k hk => b4.1 h k ⟨hk.1, b2 k hk.2⟩
/-- More signs at some places. -/
def moreUp (c : List Int) (x : Arr 6 Int) : Nat → Arr 6 Int
  | 0 => x
  | i + 1 => upd (moreUp c x i) (at' c (i + 7) % 6).toNat (bor ((moreUp c x i).g (at' c (i + 7) % 6).toNat) (at' c (i + 3) % 32))
theorem more_ok {c : List Int} {x : Arr 6 Int} (h : okReading x = true) : ∀ n, okReading (moreUp c x n) = true
  | 0 => h
  | n + 1 => okReading_of fun j hj => by
    have h6 := mod6 (at' c (n + 7))
    have ih := more_ok (c := c) h n
    simp only [moreUp]
    rw [g_upd _ _ _ _ (by omega)]
    split
    · exact bor_le (okReading_at ih (by omega)) (mod32 _)
    · exact okReading_at ih hj
theorem more_cost {w : Arr 5 Int} {a : Arr 6 Int} (hw : okWear w = true) (ha : okMark a = true) {c : List Int} {x : Arr 6 Int} (h : okReading x = true) : ∀ n, costOf w a (moreUp c x n) ≤ costOf w a x
  | 0 => by simp [moreUp]
  | n + 1 => by
    have h6 := mod6 (at' c (n + 7))
    have ih := more_cost hw ha (c := c) h n
    have ok := more_ok (c := c) h n
    have := cnt_mono (costAt w a (moreUp c x (n + 1))) (costAt w a (moreUp c x n)) 6 fun i hi hc => by
      have s := (sg_in hw ha hi).1
      simp only [costAt, moreUp, beq_iff_eq] at hc ⊢
      rw [g_upd _ _ _ _ (by omega)] at hc
      split at hc
      · rename_i e
        rw [e] at hc
        have g := okReading_at ok hi
        exact bor_meets s (by omega) (mod32 _) hc
      · exact hc
    simp only [costOf] at ih ⊢; omega
/-- The reading of a mark that numbers describe. -/
def seenR (m : Marks) (a : Arr 6 Int) (c : List Int) : Arr 6 Int := moreUp c (falseUp c 2 5 (wornUp m.wear a c 6) m.fls.toNat) (at' c 1 % 4).toNat
theorem seen_ok {m : Marks} {a : Arr 6 Int} (hw : okWear m.wear = true) (ha : okMark a = true) (c : List Int) : okReading (seenR m a c) = true :=
  more_ok (okReading_one (false_one (worn_one hw ha c) _)) _
theorem seen_cost {m : Marks} {a : Arr 6 Int} (hw : okWear m.wear = true) (ha : okMark a = true) (h0 : 0 ≤ m.fls) (c : List Int) : costOf m.wear a (seenR m a c) ≤ m.fls := by
  have h1 := more_cost hw ha (c := c) (okReading_one (false_one (c := c) (p := 2) (q := 5) (worn_one hw ha c) m.fls.toNat)) (at' c 1 % 4).toNat
  have h2 := false_cost m.wear a c 2 5 (wornUp m.wear a c 6) m.fls.toNat
  rw [worn_cost hw ha] at h2
  simp only [seenR]; omega
theorem filter_one {α : Type} (p : α → Bool) : ∀ (l : List α) (k : Nat) (hk : k < l.length), (∀ i (h : i < l.length), p l[i] = decide (i = k)) → l.filter p = [l[k]]
  | [], k, hk, _ => absurd hk (by simp)
  | x :: l, 0, hk, h => by
    have h0 : p x = true := by have := h 0 (by simp); simpa using this
    have hr : l.filter p = [] := by
      rw [List.filter_eq_nil_iff]; intro y hy
      obtain ⟨i, hi, rfl⟩ := List.getElem_of_mem hy
      have := h (i + 1) (by simp; omega); simpa using this
    simp [h0, hr]
  | x :: l, k + 1, hk, h => by
    have h0 : p x = false := by have := h 0 (by simp); simpa using this
    have := filter_one p l k (by simpa using hk) (fun i hi => by have := h (i + 1) (by simp; omega); simpa using this)
    simp [h0, this]
theorem okM_apart {m : Marks} (h : okM m = true) {i k : Nat} (hi : i < m.given.length) (hk : k < m.given.length) (e : i ≠ k) : 2 * m.fls < (cnt (apartAt m.wear (gv m i).mark (gv m k).mark) 6 : Int) := by
  simp only [okM, Bool.and_eq_true, decide_eq_true_eq, List.all_eq_true, List.mem_range, inR] at h
  obtain ⟨_, hf, _, ha⟩ := h
  have hwr : IntKind.i64.wrap (2 * m.fls) = 2 * m.fls := wrap_id _ (by omega) (by omega)
  have key : ∀ i k, i < k → k < m.given.length → 2 * m.fls < (cnt (apartAt m.wear (gv m i).mark (gv m k).mark) 6 : Int) := fun i k hik hk => by
    have := ha k hk
    simp only [okAt, Bool.and_eq_true, List.all_eq_true, List.mem_range] at this
    have := this.2.2.2 i hik
    simp only [tooNear, hwr, Bool.not_eq_true', decide_eq_false_iff_not] at this
    omega
  rcases Nat.lt_or_ge i k with h1 | h1
  · exact key i k h1 hk
  · rw [apart_comm]; exact key k i (by omega) hi
theorem okM_fls {m : Marks} (h : okM m = true) : okWear m.wear = true ∧ 0 ≤ m.fls ∧ m.fls ≤ 2 := by
  simp only [okM, Bool.and_eq_true, inR, decide_eq_true_eq] at h
  exact ⟨h.1, h.2.1.1, h.2.1.2⟩
theorem gv_mark {m : Marks} (h : okM m = true) {k : Nat} (hk : k < m.given.length) : okMark (gv m k).mark = true := by rw [← gv_eq hk]; exact okM_mark h _ (List.getElem_mem hk)
end Go.Proofs.Ytkjkbpgdpnapfaa

/-
  FUNCTIONS OF THE REFERENCE BY CONTRACT: Worn.
-/
namespace Go.Proofs.Ytkjkbpgdpnapfaa
open Go Go.Abs
open Go.Abs.Enc (enc)
theorem cut_eq (c : List Int) (i : Nat) {n : Nat} (hn : 0 < n) (h5 : n ≤ 1000) : at' c i % (n : Int) = ((cutAt c i n : Nat) : Int) := by
  unfold cutAt at'
  split
  · rename_i h; subst h; simp
  · rename_i h
    have hp : 0 < c.length := List.length_pos_iff.2 h
    have e : ((i : Int) % (c.length : Int)).toNat = i % c.length := by omega
    rw [if_pos hp, e]
    generalize c.getD (i % c.length) 0 = x
    obtain ⟨_, h2⟩ := tmod_wrap x n (by omega) (by omega)
    rw [h2]
    have := Int.emod_nonneg x (show (n : Int) ≠ 0 by omega)
    omega
theorem F20 (w : Arr 5 Int) (a : Arr 6 Int) (cuts : List Int) (hl : cuts.length ≤ 4611686018427387904) : Ctr Try.prog 20 [enc w, enc a, enc cuts] (.tuple [enc (wornR w a cuts).1, enc (wornR w a cuts).2]) := by
  refine Ctr.mk' Try.func20 ca20 cc20 cr20 (Nat.le_of_ble_eq_true rfl) (fun hwf W0 D0 E1 => ?_)
  simp only [c20, r20, idx, Nat.zero_add, Nat.reduceAdd]
  refine AW.seq (AW.reg cd20_0 fun K hK => ?_)
  simp only [g20_0, bR, Nat.reduceEqDiff, reduceIte, Int.reduceBNe, Int.reduceBEq]
  simp only [e_isVal, e_zero6, bR, Nat.reduceEqDiff, reduceIte, Int.reduceBNe, Int.reduceBEq]
  refine .done (hK _ ?_); clear hK K; simp only [thenQ, blockQ]
  refine AW.seq (AW.seq ?_)
  refine AW.reg cd20_1 fun K hK => ?_
  simp only [g20_1, bR, Nat.reduceEqDiff, reduceIte, Int.reduceBNe, Int.reduceBEq]
  try simp only [typR, useR, okR, e_fin, bR, Nat.reduceEqDiff, reduceIte, Int.reduceBNe, Int.reduceBEq]
  refine .flat _ (F44' w) rfl ?_
  try simp only [typR, useR, okR, e_fin, bR, Nat.reduceEqDiff, reduceIte, Int.reduceBNe, Int.reduceBEq]
  refine .done (hK _ ?_); clear hK K; simp only [thenQ, blockQ]
  generalize hw : okWear w = bw
  cases bw
  · refine AW.ite ?_
    simp only [condQ, bR, Nat.reduceEqDiff, reduceIte, Int.reduceBNe, Int.reduceBEq]
    refine ⟨fun h => ?_, fun h => ?_⟩
    · refine AW.seq (AW.reg cd20_2 fun K hK => ?_)
      simp only [g20_2, bR, Nat.reduceEqDiff, reduceIte, Int.reduceBNe, Int.reduceBEq]
      simp only [setParts, e_zero6, stR3_6, bR, Nat.reduceEqDiff, reduceIte, Int.reduceBNe, Int.reduceBEq]
      refine .done (hK _ ?_); clear hK K; simp only [thenQ, blockQ]
      refine AW.ret ?_
      simp only [blockQ, thenQ, bR, Nat.reduceEqDiff, reduceIte, Int.reduceBNe, Int.reduceBEq]
      simp only [typR, e_fin, bR, Nat.reduceEqDiff, reduceIte, Int.reduceBNe, Int.reduceBEq]
      simp [wornR, hw, e_int]
    · simp at h
  refine AW.ite ?_
  simp only [condQ, bR, Nat.reduceEqDiff, reduceIte, Int.reduceBNe, Int.reduceBEq]
  refine ⟨fun h => ?_, fun h => ?_⟩
  · simp at h
  refine AW.skip ?_; simp only [thenQ, blockQ, reduceIte, Nat.reduceEqDiff]
  refine AW.seq (AW.seq ?_)
  refine AW.reg cd20_3 fun K hK => ?_
  simp only [g20_3, bR, Nat.reduceEqDiff, reduceIte, Int.reduceBNe, Int.reduceBEq]
  try simp only [typR, useR, okR, e_fin, bR, Nat.reduceEqDiff, reduceIte, Int.reduceBNe, Int.reduceBEq]
  refine .flat _ (F42' a) rfl ?_
  try simp only [typR, useR, okR, e_fin, bR, Nat.reduceEqDiff, reduceIte, Int.reduceBNe, Int.reduceBEq]
  refine .done (hK _ ?_); clear hK K; simp only [thenQ, blockQ]
  generalize ha : okMark a = ba
  cases ba
  · refine AW.ite ?_
    simp only [condQ, bR, Nat.reduceEqDiff, reduceIte, Int.reduceBNe, Int.reduceBEq]
    refine ⟨fun h => ?_, fun h => ?_⟩
    · refine AW.seq (AW.reg cd20_4 fun K hK => ?_)
      simp only [g20_4, bR, Nat.reduceEqDiff, reduceIte, Int.reduceBNe, Int.reduceBEq]
      simp only [setParts, e_zero6, stR3_6, bR, Nat.reduceEqDiff, reduceIte, Int.reduceBNe, Int.reduceBEq]
      refine .done (hK _ ?_); clear hK K; simp only [thenQ, blockQ]
      refine AW.ret ?_
      simp only [blockQ, thenQ, bR, Nat.reduceEqDiff, reduceIte, Int.reduceBNe, Int.reduceBEq]
      simp only [typR, e_fin, bR, Nat.reduceEqDiff, reduceIte, Int.reduceBNe, Int.reduceBEq]
      simp [wornR, hw, ha, e_int]
    · simp at h
  refine AW.ite ?_
  simp only [condQ, bR, Nat.reduceEqDiff, reduceIte, Int.reduceBNe, Int.reduceBEq]
  refine ⟨fun h => ?_, fun h => ?_⟩
  · simp at h
  refine AW.skip ?_; simp only [thenQ, blockQ, reduceIte, Nat.reduceEqDiff]
  refine AW.seq (AW.reg cd20_5 fun K hK => ?_)
  simp only [g20_5, bR, Nat.reduceEqDiff, reduceIte, Int.reduceBNe, Int.reduceBEq]
  simp only [e_zero6, bR, Nat.reduceEqDiff, reduceIte, Int.reduceBNe, Int.reduceBEq]
  refine .done (hK _ ?_); clear hK K; simp only [thenQ, blockQ]
  refine AW.seq (AW.seq ?_)
  refine AW.reg cd20_6 fun K hK => ?_
  simp only [g20_6, bR, Nat.reduceEqDiff, reduceIte, Int.reduceBNe, Int.reduceBEq]
  refine .done (hK _ ?_); clear hK K; simp only [thenQ, blockQ]
  refine AW.block (AW.loop (fun i : Nat => mkA [(2, enc cuts), (3, .ptr 3 []), (4, .ptr 4 []), (6, .ptr 6 []), (8, .ptr 8 []), (9, .int .i64 i)] [(3, .box (enc w)), (4, .box (enc a)), (6, .box (enc zero6)), (8, .box (enc (wornUp w a cuts i)))]) (fun i => i ≤ 6) (fun i => 6 - i) 0 (by omega) ?_ (fun i hi => ?_))
  · simp only [wornUp]
    refine Sub.of_lists ?_ ?_ ?_ ?_ <;> simp [subT, subO, onlyT, onlyO, isIn, look_cons, lookO_cons, lookO_nil, AV.only, AV.onlys, AO.only, onlys_map, onlys_append, e_only, e_int, e_bool]
  refine AW.seq (AW.seq ?_)
  refine AW.reg cd20_7 fun K hK => ?_
  simp only [g20_7, bR, Nat.reduceEqDiff, reduceIte, Int.reduceBNe, Int.reduceBEq]
  refine .done (hK _ ?_); clear hK K; simp only [thenQ, blockQ]
  refine AW.ite ?_
  simp only [condQ, bR, Nat.reduceEqDiff, reduceIte, Int.reduceBNe, Int.reduceBEq]
  refine ⟨fun h => ?_, fun h => ?_⟩
  · have hi6 : i < 6 := by simp at h; omega
    have h1 := okMark_at ha hi6
    have h2 := okWear_at hw (show (a.g i).toNat < 5 by omega)
    have k5 : (a.g i).toNat < 5 := by omega
    refine AW.skip ?_; simp only [thenQ, blockQ, reduceIte, Nat.reduceEqDiff]
    refine AW.seq (AW.block ?_)
    refine AW.seq (AW.reg cd20_8 fun K hK => ?_)
    simp only [g20_8, bR, Nat.reduceEqDiff, reduceIte, Int.reduceBNe, Int.reduceBEq]
    simp only [useR, inB_nat 1 a hi6 rfl, atL_g a hi6, okR, bR, Nat.reduceEqDiff, reduceIte, Int.reduceBNe, Int.reduceBEq]
    simp only [useR, inB_int 1 w ⟨h1.1, h1.2⟩ rfl, atL_g w k5, okR, bR, Nat.reduceEqDiff, reduceIte, Int.reduceBNe, Int.reduceBEq]
    refine .lead _ (F33 (w.g (a.g i).toNat)) ?_
    try simp only [typR, useR, okR, e_fin, bR, Nat.reduceEqDiff, reduceIte, Int.reduceBNe, Int.reduceBEq]
    refine .done (hK _ ?_); clear hK K; simp only [thenQ, blockQ]
    have hL : signs w a i = members (w.g (a.g i).toNat) 5 := rfl
    rw [← hL]
    have hL5 : (signs w a i).length ≤ 5 := members_le _ 5
    have hL0 : 0 < (signs w a i).length := List.length_pos_of_mem (members_mem h2.2 5 (by omega))
    have hLi : ∀ x ∈ signs w a i, 0 ≤ x ∧ x < (5 : Nat) := members_in 5
    have hV : wornV w a cuts i = shl 1 ((signs w a i).getD (cutAt cuts i (signs w a i).length) 0).toNat := rfl
    have hcl := cutAt_lt cuts i hL0
    generalize hLL : signs w a i = L at hL5 hL0 hLi hV hcl ⊢
    have hin := hLi (L.getD (cutAt cuts i L.length) 0) (by rw [List.getD_eq_getElem?_getD, List.getElem?_eq_getElem hcl]; exact List.getElem_mem hcl)
    refine AW.reg cd20_9 fun K hK => ?_
    simp only [g20_9, bR, Nat.reduceEqDiff, reduceIte, Int.reduceBNe, Int.reduceBEq]
    try simp only [typR, useR, okR, e_fin, bR, Nat.reduceEqDiff, reduceIte, Int.reduceBNe, Int.reduceBEq]
    refine .flat _ (F25 cuts i hl) rfl ?_
    try simp only [typR, useR, okR, e_fin, bR, Nat.reduceEqDiff, reduceIte, Int.reduceBNe, Int.reduceBEq]
    refine .flat _ (F23 (at' cuts i) L.length (by omega) (by omega)) rfl ?_
    rw [cut_eq cuts i hL0 (by omega)]
    simp only [isE_getD hcl, typR, useR, okR, bR, Nat.reduceEqDiff, reduceIte, Int.reduceBNe, Int.reduceBEq]
    have hsh : IntKind.i64.wrap (1 * 2 ^ min (L.getD (cutAt cuts i L.length) 0).toNat IntKind.i64.bits) = wornV w a cuts i := hV.symm
    rw [if_pos hin.1, hsh]
    simp only [typR, useR, okR, inB_nat 1 (wornUp w a cuts i) hi6 rfl, atL_g (wornUp w a cuts i) hi6, get_g (wornUp w a cuts i) hi6, stR3_g (wornUp w a cuts i) hi6, bR, Nat.reduceEqDiff, reduceIte, Int.reduceBNe, Int.reduceBEq]
    refine .done (hK _ ?_); clear hK K; simp only [thenQ, blockQ]
    refine AW.reg cd20_10 fun K hK => ?_
    simp only [g20_10, bR, Nat.reduceEqDiff, reduceIte, Int.reduceBNe, Int.reduceBEq]
    refine .done (hK _ ?_); clear hK K; simp only [thenQ, blockQ]
    refine ⟨i + 1, by omega, by omega, ?_⟩
    rw [wrap_id _ (by omega) (by omega), wornUp]
    refine Sub.of_lists ?_ ?_ ?_ ?_ <;> simp [subT, subO, onlyT, onlyO, isIn, look_cons, lookO_cons, lookO_nil, AV.only, AV.onlys, AO.only, onlys_map, onlys_append, e_only, e_int, e_bool]
  · have h6 : i = 6 := by simp at h; omega
    subst h6
    refine AW.exit ?_; simp only [thenQ, blockQ, reduceIte, Nat.reduceEqDiff]
    refine AW.seq (AW.reg cd20_11 fun K hK => ?_)
    simp only [g20_11, bR, Nat.reduceEqDiff, reduceIte, Int.reduceBNe, Int.reduceBEq]
    simp only [typR, stR3_6, bR, Nat.reduceEqDiff, reduceIte, Int.reduceBNe, Int.reduceBEq]
    refine .done (hK _ ?_); clear hK K; simp only [thenQ, blockQ]
    refine AW.ret ?_
    simp only [blockQ, thenQ, bR, Nat.reduceEqDiff, reduceIte, Int.reduceBNe, Int.reduceBEq]
    simp only [typR, e_fin, bR, Nat.reduceEqDiff, reduceIte, Int.reduceBNe, Int.reduceBEq]
    simp [wornR, hw, ha, e_int]
end Go.Proofs.Ytkjkbpgdpnapfaa

/-
  FUNCTIONS OF THE REFERENCE BY CONTRACT: Seen.
-/
namespace Go.Proofs.Ytkjkbpgdpnapfaa
open Go Go.Abs
open Go.Abs.Enc (enc)
theorem F24 (m : Marks) (a : Arr 6 Int) (c : List Int) (hl : c.length ≤ 4611686018427387904) (hw : okWear m.wear = true) (ha : okMark a = true) (h0 : 0 ≤ m.fls) (h2 : m.fls ≤ 2) : Ctr Try.prog 24 [enc m, enc a, enc c] (enc (seenR m a c)) := by
  refine Ctr.mk' Try.func24 ca24 cc24 cr24 (Nat.le_of_ble_eq_true rfl) (fun hwf W0 D0 E1 => ?_)
  simp only [c24, r24, idx, Nat.zero_add, Nat.reduceAdd]
  obtain ⟨r0, hr0⟩ : ∃ r0, r0 = wornUp m.wear a c 6 := ⟨_, rfl⟩
  have hworn : wornR m.wear a c = (r0, 0) := by simp [wornR, hw, ha, hr0]
  refine AW.seq (AW.reg cd24_0 fun K hK => ?_)
  simp only [g24_0, bR, Nat.reduceEqDiff, reduceIte, Int.reduceBNe, Int.reduceBEq]
  simp only [e_isVal, e_zero6, bR, Nat.reduceEqDiff, reduceIte, Int.reduceBNe, Int.reduceBEq]
  refine .done (hK _ ?_); clear hK K; simp only [thenQ, blockQ]
  refine AW.seq (AW.reg cd24_1 fun K hK => ?_)
  simp only [g24_1, bR, Nat.reduceEqDiff, reduceIte, Int.reduceBNe, Int.reduceBEq]
  simp only [typR, useR, okR, e_fin, bR, Nat.reduceEqDiff, reduceIte, Int.reduceBNe, Int.reduceBEq]
  refine .lead _ (F20 m.wear a c hl) ?_
  simp only [hworn, typR, useR, okR, e_fin, e_zero6, stR3_6, bR, Nat.reduceEqDiff, reduceIte, Int.reduceBNe, Int.reduceBEq]
  refine .done (hK _ ?_); clear hK K; simp only [thenQ, blockQ]
  refine AW.seq (AW.seq ?_)
  refine AW.reg cd24_2 fun K hK => ?_
  simp only [g24_2, bR, Nat.reduceEqDiff, reduceIte, Int.reduceBNe, Int.reduceBEq]
  refine .done (hK _ ?_); clear hK K; simp only [thenQ, blockQ]
  refine AW.block (AW.loop (fun i : Nat => mkA [(2, enc c), (3, .ptr 3 []), (6, .ptr 6 []), (7, .ptr 7 []), (9, .int .i64 i)] [(3, .box (enc m)), (6, .box (enc zero6)), (7, .box (enc (falseUp c 2 5 r0 i)))]) (fun i => i ≤ m.fls.toNat) (fun i => m.fls.toNat - i) 0 (by omega) ?_ (fun i hi => ?_))
  · simp only [falseUp]
    refine Sub.of_lists ?_ ?_ ?_ ?_ <;> simp [subT, subO, onlyT, onlyO, isIn, look_cons, lookO_cons, lookO_nil, AV.only, AV.onlys, AO.only, onlys_map, onlys_append, e_only, e_int, e_bool]
  refine AW.seq (AW.seq ?_)
  refine AW.reg cd24_3 fun K hK => ?_
  simp only [g24_3, bR, Nat.reduceEqDiff, reduceIte, Int.reduceBNe, Int.reduceBEq]
  try simp only [typR, useR, okR, e_fin, bR, Nat.reduceEqDiff, reduceIte, Int.reduceBNe, Int.reduceBEq]
  refine .done (hK _ ?_); clear hK K; simp only [thenQ, blockQ]
  refine AW.ite ?_
  simp only [condQ, bR, Nat.reduceEqDiff, reduceIte, Int.reduceBNe, Int.reduceBEq]
  refine ⟨fun h => ?_, fun h => ?_⟩
  · have hlt : (i : Int) < m.fls := by simpa using h
    have m6 := mod6 (at' c (i + 2))
    have m5 := mod5 (at' c (i + 5))
    have k6 : (at' c (i + 2) % 6).toNat < 6 := by omega
    have hv : IntKind.i64.wrap (1 * 2 ^ min (at' c (i + 5) % 5).toNat IntKind.i64.bits) = shl 1 (at' c (i + 5) % 5).toNat := rfl
    refine AW.skip ?_; simp only [thenQ, blockQ, reduceIte, Nat.reduceEqDiff]
    refine AW.seq (AW.block ?_)
    refine AW.reg cd24_4 fun K hK => ?_
    simp only [g24_4, bR, Nat.reduceEqDiff, reduceIte, Int.reduceBNe, Int.reduceBEq]
    try simp only [typR, useR, okR, e_fin, bR, Nat.reduceEqDiff, reduceIte, Int.reduceBNe, Int.reduceBEq]
    rw [wrap_id _ (by omega) (by omega)]
    refine .flat _ (F25 c (i + 2) hl) rfl ?_
    try simp only [typR, useR, okR, e_fin, bR, Nat.reduceEqDiff, reduceIte, Int.reduceBNe, Int.reduceBEq]
    refine .flat _ (F23 (at' c (i + 2)) 6 (by decide) (by decide)) rfl ?_
    try simp only [typR, useR, okR, e_fin, bR, Nat.reduceEqDiff, reduceIte, Int.reduceBNe, Int.reduceBEq]
    rw [wrap_id _ (by omega) (by omega)]
    refine .flat _ (F25 c (i + 5) hl) rfl ?_
    try simp only [typR, useR, okR, e_fin, bR, Nat.reduceEqDiff, reduceIte, Int.reduceBNe, Int.reduceBEq]
    refine .flat _ (F23 (at' c (i + 5)) 5 (by decide) (by decide)) rfl ?_
    try simp only [typR, useR, okR, e_fin, bR, Nat.reduceEqDiff, reduceIte, Int.reduceBNe, Int.reduceBEq]
    rw [if_pos m5.1, hv]
    simp only [typR, useR, okR, inB_int 1 (falseUp c 2 5 r0 i) ⟨m6.1, m6.2⟩ rfl, atL_g (falseUp c 2 5 r0 i) k6, get_g (falseUp c 2 5 r0 i) k6, stR3_g (falseUp c 2 5 r0 i) k6, bR, Nat.reduceEqDiff, reduceIte, Int.reduceBNe, Int.reduceBEq]
    refine .done (hK _ ?_); clear hK K; simp only [thenQ, blockQ]
    refine AW.reg cd24_5 fun K hK => ?_
    simp only [g24_5, bR, Nat.reduceEqDiff, reduceIte, Int.reduceBNe, Int.reduceBEq]
    refine .done (hK _ ?_); clear hK K; simp only [thenQ, blockQ]
    refine ⟨i + 1, by omega, by omega, ?_⟩
    rw [wrap_id _ (by omega) (by omega), falseUp]
    refine Sub.of_lists ?_ ?_ ?_ ?_ <;> simp [subT, subO, onlyT, onlyO, isIn, look_cons, lookO_cons, lookO_nil, AV.only, AV.onlys, AO.only, onlys_map, onlys_append, e_only, e_int, e_bool]
  have hi2 : i = m.fls.toNat := by simp at h; omega
  subst hi2
  refine AW.exit ?_; simp only [thenQ, blockQ, reduceIte, Nat.reduceEqDiff]
  obtain ⟨r1, hr1⟩ : ∃ r1, r1 = falseUp c 2 5 r0 m.fls.toNat := ⟨_, rfl⟩
  rw [← hr1]
  refine AW.seq (AW.seq ?_)
  refine AW.reg cd24_6 fun K hK => ?_
  simp only [g24_6, bR, Nat.reduceEqDiff, reduceIte, Int.reduceBNe, Int.reduceBEq]
  refine .done (hK _ ?_); clear hK K; simp only [thenQ, blockQ]
  have q4 : 0 ≤ at' c 1 % 4 ∧ at' c 1 % 4 < 4 := ⟨Int.emod_nonneg _ (by decide), Int.emod_lt_of_pos _ (by decide)⟩
  refine AW.block (AW.loop (fun i : Nat => mkA [(2, enc c), (3, .ptr 3 []), (6, .ptr 6 []), (7, .ptr 7 []), (10, .int .i64 i)] [(3, .box (enc m)), (6, .box (enc zero6)), (7, .box (enc (moreUp c r1 i)))]) (fun i => i ≤ (at' c 1 % 4).toNat) (fun i => (at' c 1 % 4).toNat - i) 0 (by omega) ?_ (fun i hi => ?_))
  · simp only [moreUp]
    refine Sub.of_lists ?_ ?_ ?_ ?_ <;> simp [subT, subO, onlyT, onlyO, isIn, look_cons, lookO_cons, lookO_nil, AV.only, AV.onlys, AO.only, onlys_map, onlys_append, e_only, e_int, e_bool]
  refine AW.seq (AW.seq ?_)
  refine AW.reg cd24_7 fun K hK => ?_
  simp only [g24_7, bR, Nat.reduceEqDiff, reduceIte, Int.reduceBNe, Int.reduceBEq]
  try simp only [typR, useR, okR, e_fin, bR, Nat.reduceEqDiff, reduceIte, Int.reduceBNe, Int.reduceBEq]
  refine .flat _ (F25 c 1 hl) rfl ?_
  try simp only [typR, useR, okR, e_fin, bR, Nat.reduceEqDiff, reduceIte, Int.reduceBNe, Int.reduceBEq]
  refine .flat _ (F23 (at' c 1) 4 (by decide) (by decide)) rfl ?_
  try simp only [typR, useR, okR, e_fin, bR, Nat.reduceEqDiff, reduceIte, Int.reduceBNe, Int.reduceBEq]
  refine .done (hK _ ?_); clear hK K; simp only [thenQ, blockQ]
  refine AW.ite ?_
  simp only [condQ, bR, Nat.reduceEqDiff, reduceIte, Int.reduceBNe, Int.reduceBEq]
  refine ⟨fun h => ?_, fun h => ?_⟩
  · have hlt : (i : Int) < at' c 1 % 4 := by simpa using h
    have m6 := mod6 (at' c (i + 7))
    have m32 := mod32 (at' c (i + 3))
    have k6 : (at' c (i + 7) % 6).toNat < 6 := by omega
    refine AW.skip ?_; simp only [thenQ, blockQ, reduceIte, Nat.reduceEqDiff]
    refine AW.seq (AW.block ?_)
    refine AW.seq (AW.reg cd24_8 fun K hK => ?_)
    simp only [g24_8, bR, Nat.reduceEqDiff, reduceIte, Int.reduceBNe, Int.reduceBEq]
    try simp only [typR, useR, okR, e_fin, bR, Nat.reduceEqDiff, reduceIte, Int.reduceBNe, Int.reduceBEq]
    rw [wrap_id _ (by omega) (by omega)]
    refine .flat _ (F25 c (i + 7) hl) rfl ?_
    try simp only [typR, useR, okR, e_fin, bR, Nat.reduceEqDiff, reduceIte, Int.reduceBNe, Int.reduceBEq]
    refine .flat _ (F23 (at' c (i + 7)) 6 (by decide) (by decide)) rfl ?_
    try simp only [typR, useR, okR, e_fin, bR, Nat.reduceEqDiff, reduceIte, Int.reduceBNe, Int.reduceBEq]
    refine .done (hK _ ?_); clear hK K; simp only [thenQ, blockQ]
    refine AW.reg cd24_9 fun K hK => ?_
    simp only [g24_9, bR, Nat.reduceEqDiff, reduceIte, Int.reduceBNe, Int.reduceBEq]
    simp only [typR, useR, okR, inB_int 1 (moreUp c r1 i) ⟨m6.1, m6.2⟩ rfl, atL_g (moreUp c r1 i) k6, get_g (moreUp c r1 i) k6, e_fin, bR, Nat.reduceEqDiff, reduceIte, Int.reduceBNe, Int.reduceBEq]
    rw [wrap_id _ (by omega) (by omega)]
    refine .flat _ (F25 c (i + 3) hl) rfl ?_
    try simp only [typR, useR, okR, e_fin, bR, Nat.reduceEqDiff, reduceIte, Int.reduceBNe, Int.reduceBEq]
    refine .flat _ (F23 (at' c (i + 3)) 32 (by decide) (by decide)) rfl ?_
    try simp only [typR, useR, okR, e_fin, bR, Nat.reduceEqDiff, reduceIte, Int.reduceBNe, Int.reduceBEq]
    simp only [typR, useR, okR, inB_int 1 (moreUp c r1 i) ⟨m6.1, m6.2⟩ rfl, atL_g (moreUp c r1 i) k6, get_g (moreUp c r1 i) k6, stR3_g (moreUp c r1 i) k6, bR, Nat.reduceEqDiff, reduceIte, Int.reduceBNe, Int.reduceBEq]
    refine .done (hK _ ?_); clear hK K; simp only [thenQ, blockQ]
    refine AW.reg cd24_10 fun K hK => ?_
    simp only [g24_10, bR, Nat.reduceEqDiff, reduceIte, Int.reduceBNe, Int.reduceBEq]
    refine .done (hK _ ?_); clear hK K; simp only [thenQ, blockQ]
    refine ⟨i + 1, by omega, by omega, ?_⟩
    rw [wrap_id _ (by omega) (by omega), moreUp]
    refine Sub.of_lists ?_ ?_ ?_ ?_ <;> simp [subT, subO, onlyT, onlyO, isIn, look_cons, lookO_cons, lookO_nil, AV.only, AV.onlys, AO.only, onlys_map, onlys_append, e_only, e_int, e_bool]
    all_goals first | rfl | simp [bor]
  have hi4 : i = (at' c 1 % 4).toNat := by simp at h; omega
  refine AW.exit ?_; simp only [thenQ, blockQ, reduceIte, Nat.reduceEqDiff]
  refine AW.seq (AW.reg cd24_11 fun K hK => ?_)
  simp only [g24_11, bR, Nat.reduceEqDiff, reduceIte, Int.reduceBNe, Int.reduceBEq]
  simp only [typR, stR3_6, bR, Nat.reduceEqDiff, reduceIte, Int.reduceBNe, Int.reduceBEq]
  refine .done (hK _ ?_); clear hK K; simp only [thenQ, blockQ]
  refine AW.ret ?_
  simp only [blockQ, thenQ, bR, Nat.reduceEqDiff, reduceIte, Int.reduceBNe, Int.reduceBEq]
  simp only [typR, e_fin, bR, Nat.reduceEqDiff, reduceIte, Int.reduceBNe, Int.reduceBEq]
  rw [hi4, hr1, hr0]; rfl
end Go.Proofs.Ytkjkbpgdpnapfaa

/-
  FUNCTIONS OF THE REFERENCE BY CONTRACT: Made.
-/
namespace Go.Proofs.Ytkjkbpgdpnapfaa
open Go Go.Abs
open Go.Abs.Enc (enc)
theorem bldM2 (w : Arr 5 Int) (n : Int) : setParts [enc (a5 0 0 0 0 0), .int .i64 0, .nils 7] [(0, enc w), (1, .int .i64 n)] = some [enc w, .int .i64 n, .nils 7] := by
  have h1 : ((enc w : AV).isVal = true ∧ (enc w : AV).size = (enc (a5 0 0 0 0 0)).size) := ⟨e_isVal _, by rw [e_size, e_size]⟩
  rw [setParts_cons (z := enc (a5 0 0 0 0 0)) rfl h1.1 h1.2, setParts_cons (v := .int .i64 n) (z := .int .i64 0) rfl rfl rfl]; rfl
theorem bookL (w : Arr 5 Int) (n : Int) (x : AV) (h1 : x.isVal = true) (h2 : x.sh = .one) (h3 : x.size = 1) : (AV.agg [enc w, .int .i64 n, x]).isVal = true ∧ okLd (some 7) (AV.agg [enc w, .int .i64 n, x]) = true ∧ (AV.agg [enc w, .int .i64 n, x]).sh = .many [.many (List.replicate 5 .one), .one, .one] := by
  refine ⟨rfl, ?_, ?_⟩
  · simp [okLd, AV.isAgg, AV.size, AV.sizes, e_size, h3, e_szArr, e_szInt]
  · simp [AV.sh, AV.shs, e_sh, h2, e_shArr, e_shInt]
theorem offB (w : Arr 5 Int) (n : Int) (x : AV) (v : AV) : offR [enc w, .int .i64 n, x] 2 6 v = some v := offR_eq (Nat.le_of_ble_eq_true rfl) (by simp [AV.sizes, AV.size, e_size, e_szArr, e_szInt])
theorem F22 (c : List Int) (hl : c.length ≤ 4611686018427387904) : Ctr Try.prog 22 [enc c] (enc (made c)) := by
  refine Ctr.mk' Try.func22 ca22 cc22 cr22 (Nat.le_of_ble_eq_true rfl) (fun hwf W0 D0 E1 => ?_)
  simp only [c22, r22, idx, Nat.zero_add, Nat.reduceAdd]
  refine AW.seq (AW.reg cd22_0 fun K hK => ?_)
  simp only [g22_0, bR, Nat.reduceEqDiff, reduceIte, Int.reduceBNe, Int.reduceBEq]
  refine .done (hK _ ?_); clear hK K; simp only [thenQ, blockQ]
  obtain ⟨w, hw⟩ : ∃ w, w = wears c 5 := ⟨_, rfl⟩
  obtain ⟨f, hf⟩ : ∃ f, f = at' c 5 % 2 := ⟨_, rfl⟩
  refine AW.seq (AW.reg cd22_1 fun K hK => ?_)
  simp only [g22_1, bR, Nat.reduceEqDiff, reduceIte, Int.reduceBNe, Int.reduceBEq]
  try simp only [typR, useR, okR, e_fin, bR, Nat.reduceEqDiff, reduceIte, Int.reduceBNe, Int.reduceBEq]
  refine .lead _ (F34 c hl) ?_
  try simp only [typR, useR, okR, e_fin, bR, Nat.reduceEqDiff, reduceIte, Int.reduceBNe, Int.reduceBEq]
  refine .flat _ (F25 c 5 hl) rfl ?_
  try simp only [typR, useR, okR, e_fin, bR, Nat.reduceEqDiff, reduceIte, Int.reduceBNe, Int.reduceBEq]
  refine .flat _ (F23 (at' c 5) 2 (by decide) (by decide)) rfl ?_
  simp only [e_a5, bldM2, ← hw, ← hf, bR, Nat.reduceEqDiff, reduceIte, Int.reduceBNe, Int.reduceBEq]
  obtain ⟨q1, q2, q3⟩ := bookL w f (.nils 7) rfl rfl rfl
  rw [stR3_ok q1 q2 (q3.trans (bookL (a5 0 0 0 0 0) 0 (.nils 7) rfl rfl rfl).2.2.symm)]
  simp only [setAt_nil, bR, Nat.reduceEqDiff, reduceIte, Int.reduceBNe, Int.reduceBEq]
  refine .done (hK _ ?_); clear hK K; simp only [thenQ, blockQ]
  refine AW.seq (AW.reg cd22_2 fun K hK => ?_)
  simp only [g22_2, bR, Nat.reduceEqDiff, reduceIte, Int.reduceBNe, Int.reduceBEq]
  refine .done (hK _ ?_); clear hK K; simp only [thenQ, blockQ]
  refine AW.seq (AW.seq ?_)
  refine AW.reg cd22_3 fun K hK => ?_
  simp only [g22_3, bR, Nat.reduceEqDiff, reduceIte, Int.reduceBNe, Int.reduceBEq]
  refine .done (hK _ ?_); clear hK K; simp only [thenQ, blockQ]
  refine AW.block (AW.loop (fun i : Nat => mkA [(0, enc c), (2, .ptr 2 []), (3, .ptr 3 []), (4, .int .i64 (madeUp c i).1), (5, .int .i64 i)] [(1, .row 43 7 ((madeUp c i).2.map enc)), (2, .box (.agg [enc (a5 0 0 0 0 0), .int .i64 0, .nils 7])), (3, .box (.agg [enc w, .int .i64 f, .own 1 (madeUp c i).2.length]))]) (fun i => i ≤ 12) (fun i => 12 - i) 0 (by omega) ?_ (fun i hi => ?_))
  · refine Sub.adoptBL 3 1 43 7 7 [2] (.agg [enc w, .int .i64 f, .nils 7]) ?_ rfl ?_ ?_
    · simp only [bR, Nat.reduceEqDiff, reduceIte, Int.reduceBNe, Int.reduceBEq]
    · simp only [bR, Nat.reduceEqDiff, reduceIte, Int.reduceBNe, Int.reduceBEq]
    · have e1 : (AV.agg [enc w, .int .i64 f, .nils 7]).setAt [2] (.own 1 0) = .agg [enc w, .int .i64 f, .own 1 0] := rfl
      rw [e1]
      simp only [madeUp, List.map_nil, List.length_nil]
      refine Sub.of_lists ?_ ?_ ?_ ?_ <;> simp [subT, subO, onlyT, onlyO, isIn, look_cons, lookO_cons, lookO_nil, AV.only, AV.onlys, AO.only, onlys_map, onlys_append, e_only, e_int, e_bool]
  obtain ⟨b1, b2, b3, _, _⟩ := made_ok c i
  have q4 := mod4 (c.getD i 0)
  have fin12 : ¬ (i < c.length ∧ i < 12 ∧ (madeUp c i).2.length < 9) → (made c).given = (madeUp c i).2 := by
    intro hn
    by_cases e : i = 12
    · subst e; rfl
    · have : madeUp c 12 = madeUp c i := madeUp_stop (fun hh => hn ⟨hh.1, by omega, hh.2⟩) 12 hi
      simp only [made, madeM, this]
  refine AW.seq (AW.seq ?_)
  refine AW.reg cd22_4 fun K hK => ?_
  simp only [g22_4, bR, Nat.reduceEqDiff, reduceIte, Int.reduceBNe, Int.reduceBEq]
  try simp only [typR, useR, okR, e_fin, bR, Nat.reduceEqDiff, reduceIte, Int.reduceBNe, Int.reduceBEq]
  generalize hz : decide ((i : Int) < c.length) = bz
  cases bz
  · have hout := fin12 (fun hh => by simp at hz; omega)
    try simp only [typR, useR, okR, e_fin, bR, Nat.reduceEqDiff, reduceIte, Int.reduceBNe, Int.reduceBEq]
    refine .done (hK _ ?_); clear hK K; simp only [thenQ, blockQ]
    refine AW.ite ?_
    simp only [condQ, bR, Nat.reduceEqDiff, reduceIte, Int.reduceBNe, Int.reduceBEq]
    refine ⟨fun h => ?_, fun h => ?_⟩
    · cases h
    refine AW.exit ?_; simp only [thenQ, blockQ, reduceIte, Nat.reduceEqDiff]
    refine AW.seq (AW.reg cd22_10 fun K hK => ?_)
    simp only [g22_10, bR, Nat.reduceEqDiff, reduceIte, Int.reduceBNe, Int.reduceBEq]
    obtain ⟨s1, s2, s3⟩ := bookL w f (.own 1 (madeUp c i).2.length) rfl rfl rfl
    simp only [s2, bR, Nat.reduceEqDiff, reduceIte, Int.reduceBNe, Int.reduceBEq]
    rw [stR3_ok s1 s2 (s3.trans (bookL (a5 0 0 0 0 0) 0 (.nils 7) rfl rfl rfl).2.2.symm)]
    simp only [setAt_nil, bR, Nat.reduceEqDiff, reduceIte, Int.reduceBNe, Int.reduceBEq]
    refine .done (hK _ ?_); clear hK K; simp only [thenQ, blockQ]
    refine AW.ret ?_
    simp only [blockQ, thenQ, bR, Nat.reduceEqDiff, reduceIte, Int.reduceBNe, Int.reduceBEq]
    simp only [s2, finO_enc (α := Given) 7 rfl rfl, typR, e_fin, bR, Nat.reduceEqDiff, reduceIte, Int.reduceBNe, Int.reduceBEq]
    have hfin : (⟨w, f, (madeUp c i).2⟩ : Marks) = made c := by rw [← hout, hw, hf]; rfl
    rw [e_M, hfin]
  have hic : i < c.length := by simpa using hz
  try simp only [typR, useR, okR, e_fin, bR, Nat.reduceEqDiff, reduceIte, Int.reduceBNe, Int.reduceBEq]
  generalize hz2 : decide ((i : Int) < 12) = bz
  cases bz
  · have hout := fin12 (fun hh => by simp at hz2; omega)
    try simp only [typR, useR, okR, e_fin, bR, Nat.reduceEqDiff, reduceIte, Int.reduceBNe, Int.reduceBEq]
    refine .done (hK _ ?_); clear hK K; simp only [thenQ, blockQ]
    refine AW.ite ?_
    simp only [condQ, bR, Nat.reduceEqDiff, reduceIte, Int.reduceBNe, Int.reduceBEq]
    refine ⟨fun h => ?_, fun h => ?_⟩
    · cases h
    refine AW.exit ?_; simp only [thenQ, blockQ, reduceIte, Nat.reduceEqDiff]
    refine AW.seq (AW.reg cd22_10 fun K hK => ?_)
    simp only [g22_10, bR, Nat.reduceEqDiff, reduceIte, Int.reduceBNe, Int.reduceBEq]
    obtain ⟨s1, s2, s3⟩ := bookL w f (.own 1 (madeUp c i).2.length) rfl rfl rfl
    simp only [s2, bR, Nat.reduceEqDiff, reduceIte, Int.reduceBNe, Int.reduceBEq]
    rw [stR3_ok s1 s2 (s3.trans (bookL (a5 0 0 0 0 0) 0 (.nils 7) rfl rfl rfl).2.2.symm)]
    simp only [setAt_nil, bR, Nat.reduceEqDiff, reduceIte, Int.reduceBNe, Int.reduceBEq]
    refine .done (hK _ ?_); clear hK K; simp only [thenQ, blockQ]
    refine AW.ret ?_
    simp only [blockQ, thenQ, bR, Nat.reduceEqDiff, reduceIte, Int.reduceBNe, Int.reduceBEq]
    simp only [s2, finO_enc (α := Given) 7 rfl rfl, typR, e_fin, bR, Nat.reduceEqDiff, reduceIte, Int.reduceBNe, Int.reduceBEq]
    have hfin : (⟨w, f, (madeUp c i).2⟩ : Marks) = made c := by rw [← hout, hw, hf]; rfl
    rw [e_M, hfin]
  have hi12 : i < 12 := by simp at hz2; omega
  simp only [offB, typR, useR, okR, e_fin, bR, Nat.reduceEqDiff, reduceIte, Int.reduceBNe, Int.reduceBEq]
  rw [lenE_own _ 1 _ 43 7 (madeUp c i).2 (by simp only [bR, Nat.reduceEqDiff, reduceIte, Int.reduceBNe, Int.reduceBEq]) rfl]
  simp only [typR, useR, okR, e_fin, bR, Nat.reduceEqDiff, reduceIte, Int.reduceBNe, Int.reduceBEq]
  generalize hz3 : decide (((madeUp c i).2.length : Int) < 9) = bz
  cases bz
  · have hout := fin12 (fun hh => by simp at hz3; omega)
    try simp only [typR, useR, okR, e_fin, bR, Nat.reduceEqDiff, reduceIte, Int.reduceBNe, Int.reduceBEq]
    refine .done (hK _ ?_); clear hK K; simp only [thenQ, blockQ]
    refine AW.ite ?_
    simp only [condQ, bR, Nat.reduceEqDiff, reduceIte, Int.reduceBNe, Int.reduceBEq]
    refine ⟨fun h => ?_, fun h => ?_⟩
    · cases h
    refine AW.exit ?_; simp only [thenQ, blockQ, reduceIte, Nat.reduceEqDiff]
    refine AW.seq (AW.reg cd22_10 fun K hK => ?_)
    simp only [g22_10, bR, Nat.reduceEqDiff, reduceIte, Int.reduceBNe, Int.reduceBEq]
    obtain ⟨s1, s2, s3⟩ := bookL w f (.own 1 (madeUp c i).2.length) rfl rfl rfl
    simp only [s2, bR, Nat.reduceEqDiff, reduceIte, Int.reduceBNe, Int.reduceBEq]
    rw [stR3_ok s1 s2 (s3.trans (bookL (a5 0 0 0 0 0) 0 (.nils 7) rfl rfl rfl).2.2.symm)]
    simp only [setAt_nil, bR, Nat.reduceEqDiff, reduceIte, Int.reduceBNe, Int.reduceBEq]
    refine .done (hK _ ?_); clear hK K; simp only [thenQ, blockQ]
    refine AW.ret ?_
    simp only [blockQ, thenQ, bR, Nat.reduceEqDiff, reduceIte, Int.reduceBNe, Int.reduceBEq]
    simp only [s2, finO_enc (α := Given) 7 rfl rfl, typR, e_fin, bR, Nat.reduceEqDiff, reduceIte, Int.reduceBNe, Int.reduceBEq]
    have hfin : (⟨w, f, (madeUp c i).2⟩ : Marks) = made c := by rw [← hout, hw, hf]; rfl
    rw [e_M, hfin]
  have hi9 : (madeUp c i).2.length < 9 := by simp at hz3; omega
  try simp only [typR, useR, okR, e_fin, bR, Nat.reduceEqDiff, reduceIte, Int.reduceBNe, Int.reduceBEq]
  refine .done (hK _ ?_); clear hK K; simp only [thenQ, blockQ]
  refine AW.ite ?_
  simp only [condQ, bR, Nat.reduceEqDiff, reduceIte, Int.reduceBNe, Int.reduceBEq]
  refine ⟨fun h => ?_, fun h => ?_⟩
  case refine_2.true.true.true.refine_2 => cases h
  have hbk : okBook ⟨w, f, (madeUp c i).2⟩ := by rw [hw, hf]; exact okM_book (okM_madeM c (by omega))
  have hstep : madeUp c (i + 1) = madeStep c i (madeUp c i) := by simp only [madeUp, if_pos (show i < c.length ∧ (madeUp c i).2.length < 9 from ⟨hic, hi9⟩)]
  generalize madeUp c i = p at *
  obtain ⟨o, l⟩ := p
  simp only at *
  refine AW.skip ?_; simp only [thenQ, blockQ, reduceIte, Nat.reduceEqDiff]
  refine AW.seq (AW.block ?_)
  refine AW.seq (AW.reg cd22_5 fun K hK => ?_)
  simp only [g22_5, bR, Nat.reduceEqDiff, reduceIte, Int.reduceBNe, Int.reduceBEq]
  simp only [isE_getD hic, typR, useR, okR, e_fin, bR, Nat.reduceEqDiff, reduceIte, Int.reduceBNe, Int.reduceBEq]
  refine .flat _ (F23 (c.getD i 0) 4 (by decide) (by decide)) rfl ?_
  try simp only [typR, useR, okR, e_fin, bR, Nat.reduceEqDiff, reduceIte, Int.reduceBNe, Int.reduceBEq]
  rw [wrap_id _ (show -9223372036854775808 ≤ 1 + c.getD i 0 % 4 by omega) (by omega), wrap_id _ (by omega) (by omega)]
  refine .done (hK _ ?_); clear hK K; simp only [thenQ, blockQ]
  obtain ⟨o2, ho2⟩ : ∃ o2, o2 = o + (1 + c.getD i 0 % 4) := ⟨_, rfl⟩
  rw [← ho2]
  refine AW.seq (AW.reg cd22_6 fun K hK => ?_)
  simp only [g22_6, bR, Nat.reduceEqDiff, reduceIte, Int.reduceBNe, Int.reduceBEq]
  simp only [isE_getD hic, typR, useR, okR, e_fin, bR, Nat.reduceEqDiff, reduceIte, Int.reduceBNe, Int.reduceBEq]
  rw [wrap_id ((i : Int) * 2503) (by omega) (by omega)]
  refine .flat _ (F23 _ 15625 (by decide) (by decide)) rfl ?_
  try simp only [typR, useR, okR, e_fin, bR, Nat.reduceEqDiff, reduceIte, Int.reduceBNe, Int.reduceBEq]
  refine .lead _ (F35 _) ?_
  have hmark : digits (IntKind.i64.wrap (IntKind.i64.wrap (c.getD i 0 * 7) + i * 2503) % 15625) 6 = (madeG c i 0).mark := rfl
  rw [hmark]
  obtain ⟨mk, hmk⟩ : ∃ mk, mk = (madeG c i 0).mark := ⟨_, rfl⟩
  rw [← hmk]
  simp only [e_a6, bldG, e_G, stR3_G, typR, useR, okR, e_fin, bR, Nat.reduceEqDiff, reduceIte, Int.reduceBNe, Int.reduceBEq]
  refine .done (hK _ ?_); clear hK K; simp only [thenQ, blockQ]
  obtain ⟨s1, s2, s3⟩ := bookL w f (.own 1 l.length) rfl rfl rfl
  have hokm : okMark mk = true := by rw [hmk]; exact okMark_digits _
  refine AW.seq (AW.reg cd22_7 fun K hK => ?_)
  simp only [g22_7, bR, Nat.reduceEqDiff, reduceIte, Int.reduceBNe, Int.reduceBEq]
  simp only [s2, finO_enc (α := Given) 7 rfl rfl, typR, useR, okR, e_M, e_fin, bR, Nat.reduceEqDiff, reduceIte, Int.reduceBNe, Int.reduceBEq]
  refine .flat _ (F83 ⟨w, f, l⟩ mk hbk hokm) rfl ?_
  obtain ⟨near, hnear⟩ : ∃ near, near = l.any (fun h => tooNear ⟨w, f, l⟩ h.mark mk) := ⟨_, rfl⟩
  have hst : madeUp c (i + 1) = (o2, if near then l else l ++ [⟨o2, mk⟩]) := by
    rw [hstep, madeStep, hnear, ho2, hmk, hw, hf]; rfl
  have hnear' : (l.any fun g => decide ((cnt (apartAt w g.mark mk) 6 : Int) ≤ IntKind.i64.wrap (2 * f))) = near := by rw [hnear]; rfl
  simp only [hnear', typR, useR, okR, e_fin, bR, Nat.reduceEqDiff, reduceIte, Int.reduceBNe, Int.reduceBEq]
  refine .done (hK _ ?_); clear hK K; simp only [thenQ, blockQ]
  cases near
  · rw [if_neg (by simp)] at hst
    refine AW.ite ?_
    simp only [condQ, bR, Nat.reduceEqDiff, reduceIte, Int.reduceBNe, Int.reduceBEq]
    refine ⟨fun h => ?_, fun h => ?_⟩
    · refine AW.reg cd22_8 fun K hK => ?_
      simp only [g22_8, bR, Nat.reduceEqDiff, reduceIte, Int.reduceBNe, Int.reduceBEq]
      simp only [offB, bsE_one 7 (⟨o2, mk⟩ : Given) rfl, typR, useR, okR, e_fin, bR, Nat.reduceEqDiff, reduceIte, Int.reduceBNe, Int.reduceBEq]
      rw [appR3_enc (α := Given) 43 7 56 1 rfl rfl (by simp) (by simp [maxLen]; omega) (by simp; omega)]
      simp only [offB, typR, useR, okR, e_fin, bR, Nat.reduceEqDiff, reduceIte, Int.reduceBNe, Int.reduceBEq]
      rw [stR3_ok (s := none) (v := .own 1 (l ++ [(⟨o2, mk⟩ : Given)]).length) (old := .own 1 l.length) rfl rfl rfl]
      have hset : (AV.agg [enc w, .int .i64 f, .own 1 l.length]).setAt [2] (.own 1 (l ++ [(⟨o2, mk⟩ : Given)]).length) = .agg [enc w, .int .i64 f, .own 1 (l ++ [(⟨o2, mk⟩ : Given)]).length] := rfl
      simp only [hset, bR, Nat.reduceEqDiff, reduceIte, Int.reduceBNe, Int.reduceBEq]
      refine .done (hK _ ?_); clear hK K; simp only [thenQ, blockQ]
      refine AW.reg cd22_9 fun K hK => ?_
      simp only [g22_9, bR, Nat.reduceEqDiff, reduceIte, Int.reduceBNe, Int.reduceBEq]
      refine .done (hK _ ?_); clear hK K; simp only [thenQ, blockQ]
      refine ⟨i + 1, by omega, by omega, ?_⟩
      rw [wrap_id _ (by omega) (by omega), hst]
      refine Sub.of_lists ?_ ?_ ?_ ?_ <;> simp [subT, subO, onlyT, onlyO, isIn, look_cons, lookO_cons, lookO_nil, AV.only, AV.onlys, AO.only, onlys_map, onlys_append, e_only, e_int, e_bool]
    · cases h
  · rw [if_pos rfl] at hst
    refine AW.ite ?_
    simp only [condQ, bR, Nat.reduceEqDiff, reduceIte, Int.reduceBNe, Int.reduceBEq]
    refine ⟨fun h => ?_, fun h => ?_⟩
    · cases h
    refine AW.skip ?_; simp only [thenQ, blockQ, reduceIte, Nat.reduceEqDiff]
    refine AW.reg cd22_9 fun K hK => ?_
    simp only [g22_9, bR, Nat.reduceEqDiff, reduceIte, Int.reduceBNe, Int.reduceBEq]
    refine .done (hK _ ?_); clear hK K; simp only [thenQ, blockQ]
    refine ⟨i + 1, by omega, by omega, ?_⟩
    rw [wrap_id _ (by omega) (by omega), hst]
    refine Sub.of_lists ?_ ?_ ?_ ?_ <;> simp [subT, subO, onlyT, onlyO, isIn, look_cons, lookO_cons, lookO_nil, AV.only, AV.onlys, AO.only, onlys_map, onlys_append, e_only, e_int, e_bool]
end Go.Proofs.Ytkjkbpgdpnapfaa

/-
  FUNCTIONS BY CONTRACT: possible (its result taken as data), CheckLook, of mark and of the reference.
-/
namespace Go.Proofs.Ytkjkbpgdpnapfaa
open Go Go.Abs
open Go.Abs.Enc (enc)
theorem F65c (m : Marks) (r : Arr 6 Int) (hm : ∀ g ∈ m.given, okMark g.mark = true) (hlen : m.given.length ≤ 1000) : Ctr Try.prog 65 [enc m, enc r] (enc (possG m r)) := by
  refine Ctr.mk' Try.func65 ca65 cc65 cr65 (Nat.le_of_ble_eq_true rfl) (fun hwf W0 D0 E1 => ?_)
  simp only [c65, r65, idx, Nat.zero_add, Nat.reduceAdd]
  refine AW.seq (AW.reg cd65_0 fun K hK => ?_)
  simp only [g65_0, bR, Nat.reduceEqDiff, reduceIte, Int.reduceBNe, Int.reduceBEq]
  simp only [e_isVal, bR, Nat.reduceEqDiff, reduceIte, Int.reduceBNe, Int.reduceBEq]
  refine .done (hK _ ?_); clear hK K; simp only [thenQ, blockQ]
  refine AW.seq (AW.reg cd65_1 fun K hK => ?_)
  simp only [g65_1, bR, Nat.reduceEqDiff, reduceIte, Int.reduceBNe, Int.reduceBEq]
  simp only [typR, useR, okR, e_fin, bR, Nat.reduceEqDiff, reduceIte, Int.reduceBNe, Int.reduceBEq]
  refine .obj false [(7, 7)] [] [enc m.given] (clonePost m.given) rfl (F85 m.given hlen) Gvn.nil ⟨.inl ⟨(e_ren _ _).symm, e_only _ _, e_isVal _⟩, trivial⟩ ?_ ?_
  · rintro x os' (⟨_, h | h, rfl⟩ | ⟨_, k, rfl, rfl⟩)
    · subst h; exact Bck.nil (fun _ => rfl) (fun h => by cases h)
    · subst h; exact Bck.nil (fun _ => rfl) (fun h => by cases h)
    · exact Bck.new1 (fun p => map_only p _) (fun h => by cases h) rfl (fun h => by cases h) rfl (by decide)
  · have hd : AV.dones [.ref (enc m), .ref (enc r)] = true := by simp only [AV.dones, AV.done, e_closed, Bool.and_self]
    rintro x os' (⟨hn, h, rfl⟩ | ⟨hn, k, rfl, rfl⟩)
    · have hp : possG m r = [] := by simp [possG, keep, hn]
      have key : ∀ x, (x = .nils 7 ∨ x = .c0 7) → fin true (mkA [] []) x = some (enc ([] : List Given)) := by rintro x (rfl | rfl) <;> rfl
      have hren : ∀ x : AV, (x = .nils 7 ∨ x = .c0 7) → x.ren (rnm [(7, 7)]) = x ∧ x.isVal = true := by rintro x (rfl | rfl) <;> exact ⟨by simp only [AV.ren], rfl⟩
      rw [(hren x h).1]
      simp only [renR, List.nil_append, List.all_cons, List.all_nil, AV.isVal, Bool.and_self, bR, Nat.reduceEqDiff, reduceIte, Int.reduceBNe, Int.reduceBEq]
      have hfx : ∀ A, fin true A x = some (enc ([] : List Given)) := fun A => by rcases h with rfl | rfl <;> simp only [fin, e_list, List.map_nil] <;> rfl
      refine .free [2, 3] (enc ([] : List Given)) rfl (F73n 105 [.ref (enc m), .ref (enc r)] hd) ?_ ?_ ?_
      · simp only [hfx, keepO, List.filter_cons, List.filter_nil, List.contains_cons, Nat.reduceBEq, Bool.or_false, Bool.or_true, Bool.true_or, BEq.rfl, e_closed, bR, Nat.reduceEqDiff, reduceIte, Int.reduceBNe, Int.reduceBEq]
      · simp [dropO, onlyO]
      · simp only [fgt, dropO, List.filter_cons, List.filter_nil, List.contains_cons, Nat.reduceBEq, Bool.or_false, Bool.or_true, Bool.true_or, BEq.rfl, List.map_cons, List.map_nil, bR, Nat.reduceEqDiff, reduceIte, Int.reduceBNe, Int.reduceBEq]
        refine .done (hK _ ?_); clear hK K; simp only [thenQ, blockQ]
        refine AW.ret ?_
        simp only [blockQ, thenQ, bR, Nat.reduceEqDiff, reduceIte, Int.reduceBNe, Int.reduceBEq]
        simp only [hp, e_fin, bR, Nat.reduceEqDiff, reduceIte, Int.reduceBNe, Int.reduceBEq]
    · simp only [rowG, renR, rens_map_enc, List.cons_append, List.nil_append, List.all_cons, List.all_nil, AV.isVal, Bool.and_self, bR, Nat.reduceEqDiff, reduceIte, Int.reduceBNe, Int.reduceBEq]
      refine .obj true [(1000000, 7)] (rowG 1000000 m.given k) [.view 1000000 [] 7 0 m.given.length, .func 105 [.ref (enc m), .ref (enc r)]] (delPost 1000000 (possG m r)) rfl
        (F73 m.given 105 [.ref (enc m), .ref (enc r)] hd (fun g => decide (m.fls < costOf m.wear g.mark r)) (fun g hg => F105 m r g (hm g hg)) hlen k) ⟨?_, ?_⟩ ⟨.inl ⟨?_, ?_, rfl⟩, .inr ?_, trivial⟩ ?_ ?_
      · intro n x h
        simp only [rowG, lookO] at h
        split at h
        · rename_i hn'
          subst hn'
          simp only [Option.some.injEq] at h
          subst h
          exact ⟨by simp only [renR, rens_map_enc, bR, Nat.reduceEqDiff, reduceIte, Int.reduceBNe, Int.reduceBEq], map_only _ _, rfl⟩
        · cases h
      · intro a b ha hb _
        rw [isIn_one.1 ha, isIn_one.1 hb]
      · simp only [renR, bR, Nat.reduceEqDiff, reduceIte, Int.reduceBNe, Int.reduceBEq]
      · exact isIn_one.2 rfl
      · simp only [names, rowG, rnm, dropO, List.filter_cons, List.filter_nil, List.map_cons, List.map_nil, List.contains_cons, List.contains_nil, Nat.reduceBEq, Bool.or_false, Bool.or_true, Bool.true_or, BEq.rfl, e_closed, bR, Nat.reduceEqDiff, reduceIte, Int.reduceBNe, Int.reduceBEq]
      · rintro x os' ⟨k', rfl, rfl⟩
        exact Bck.one (fun p => map_only p _) (fun _ => map_lean _) (isIn_one.2 rfl) (fun _ => rfl)
      · rintro x os' ⟨k', rfl, rfl⟩
        simp only [rowG, renR, rens_map_enc, List.cons_append, List.nil_append, bR, Nat.reduceEqDiff, reduceIte, Int.reduceBNe, Int.reduceBEq]
        refine .done (hK _ ?_); clear hK K; simp only [thenQ, blockQ]
        refine AW.ret ?_
        simp only [blockQ, thenQ, bR, Nat.reduceEqDiff, reduceIte, Int.reduceBNe, Int.reduceBEq]
        simp only [finV_take (α := Given) (sz := 7) rfl, take_row, e_fin, bR, Nat.reduceEqDiff, reduceIte, Int.reduceBNe, Int.reduceBEq]
def checkLook (m : Marks) (r : Arr 6 Int) (places : List Int) : Int := if okM m then (if okReading r then (if okPlaces places && settled m.wear (possG m r) places then 0 else 18) else 12) else 13
theorem F17 (m : Marks) (r : Arr 6 Int) (places : List Int) : Ctr Try.prog 17 [enc m, enc r, enc places] (enc (checkLook m r places)) := by
  refine Ctr.mk' Try.func17 ca17 cc17 cr17 (Nat.le_of_ble_eq_true rfl) (fun hwf W0 D0 E1 => ?_)
  simp only [c17, r17, idx, Nat.zero_add, Nat.reduceAdd]
  refine AW.seq (AW.reg cd17_0 fun K hK => ?_)
  simp only [g17_0, bR, Nat.reduceEqDiff, reduceIte, Int.reduceBNe, Int.reduceBEq]
  simp only [e_isVal, bR, Nat.reduceEqDiff, reduceIte, Int.reduceBNe, Int.reduceBEq]
  refine .done (hK _ ?_); clear hK K; simp only [thenQ, blockQ]
  refine AW.seq ?_
  refine AW.seq (AW.reg cd17_1 fun K hK => ?_)
  simp only [g17_1, bR, Nat.reduceEqDiff, reduceIte, Int.reduceBNe, Int.reduceBEq]
  simp only [typR, useR, okR, e_fin, bR, Nat.reduceEqDiff, reduceIte, Int.reduceBNe, Int.reduceBEq]
  refine .flat _ (F47 m) rfl ?_
  simp only [typR, useR, okR, e_fin, bR, Nat.reduceEqDiff, reduceIte, Int.reduceBNe, Int.reduceBEq]
  refine .flat _ (F45 r) rfl ?_
  simp only [typR, useR, okR, e_fin, bs2, bR, Nat.reduceEqDiff, reduceIte, Int.reduceBNe, Int.reduceBEq]
  refine .flat _ (F64 _) rfl ?_
  rw [first2 _ _ 13 12 (by decide) (by decide)]
  simp only [bR, Nat.reduceEqDiff, reduceIte, Int.reduceBNe, Int.reduceBEq]
  refine .done (hK _ ?_); clear hK K; simp only [thenQ, blockQ]
  generalize hw : okM m = bw
  generalize hr : okReading r = br
  cases bw
  · refine AW.seq (AW.reg cd17_2 fun K hK => ?_)
    simp only [g17_2, bR, Nat.reduceEqDiff, reduceIte, Int.reduceBNe, Int.reduceBEq]
    refine .done (hK _ ?_); clear hK K; simp only [thenQ, blockQ]
    refine AW.ite ?_
    simp only [condQ, bR, Nat.reduceEqDiff, reduceIte, Int.reduceBNe, Int.reduceBEq]
    refine ⟨fun h => ?_, fun h => ?_⟩
    · refine AW.seq (AW.reg cd17_3 fun K hK => ?_)
      simp only [g17_3, bR, Nat.reduceEqDiff, reduceIte, Int.reduceBNe, Int.reduceBEq]
      refine .done (hK _ ?_); clear hK K; simp only [thenQ, blockQ]
      refine AW.ret ?_
      simp only [blockQ, thenQ, bR, Nat.reduceEqDiff, reduceIte, Int.reduceBNe, Int.reduceBEq]
      simp [checkLook, hw]
    · cases h
  cases br
  · refine AW.seq (AW.reg cd17_2 fun K hK => ?_)
    simp only [g17_2, bR, Nat.reduceEqDiff, reduceIte, Int.reduceBNe, Int.reduceBEq]
    refine .done (hK _ ?_); clear hK K; simp only [thenQ, blockQ]
    refine AW.ite ?_
    simp only [condQ, bR, Nat.reduceEqDiff, reduceIte, Int.reduceBNe, Int.reduceBEq]
    refine ⟨fun h => ?_, fun h => ?_⟩
    · refine AW.seq (AW.reg cd17_3 fun K hK => ?_)
      simp only [g17_3, bR, Nat.reduceEqDiff, reduceIte, Int.reduceBNe, Int.reduceBEq]
      refine .done (hK _ ?_); clear hK K; simp only [thenQ, blockQ]
      refine AW.ret ?_
      simp only [blockQ, thenQ, bR, Nat.reduceEqDiff, reduceIte, Int.reduceBNe, Int.reduceBEq]
      simp [checkLook, hw, hr]
    · cases h
  refine AW.seq (AW.reg cd17_2 fun K hK => ?_)
  simp only [g17_2, bR, Nat.reduceEqDiff, reduceIte, Int.reduceBNe, Int.reduceBEq]
  refine .done (hK _ ?_); clear hK K; simp only [thenQ, blockQ]
  refine AW.ite ?_
  simp only [condQ, bR, Nat.reduceEqDiff, reduceIte, Int.reduceBNe, Int.reduceBEq]
  refine ⟨fun h => ?_, fun h => ?_⟩
  · cases h
  refine AW.skip ?_; simp only [thenQ, blockQ, reduceIte, Nat.reduceEqDiff]
  have hlen : m.given.length ≤ 1000 := by have := okM_len hw; omega
  have hpm : ∀ g ∈ possG m r, okMark g.mark = true := fun g hg => okM_mark hw g (possG_mem hg)
  refine AW.seq (AW.seq ?_)
  refine AW.reg cd17_4 fun K hK => ?_
  simp only [g17_4, bR, Nat.reduceEqDiff, reduceIte, Int.reduceBNe, Int.reduceBEq]
  try simp only [typR, useR, okR, e_fin, bR, Nat.reduceEqDiff, reduceIte, Int.reduceBNe, Int.reduceBEq]
  refine .flat _ (F71 places) rfl ?_
  generalize hp : okPlaces places = bp
  cases bp
  · try simp only [typR, useR, okR, e_fin, bR, Nat.reduceEqDiff, reduceIte, Int.reduceBNe, Int.reduceBEq]
    refine .done (hK _ ?_); clear hK K; simp only [thenQ, blockQ]
    refine AW.ite ?_
    simp only [condQ, bR, Nat.reduceEqDiff, reduceIte, Int.reduceBNe, Int.reduceBEq]
    refine ⟨fun h => ?_, fun h => ?_⟩
    · refine AW.seq (AW.reg cd17_5 fun K hK => ?_)
      simp only [g17_5, bR, Nat.reduceEqDiff, reduceIte, Int.reduceBNe, Int.reduceBEq]
      refine .done (hK _ ?_); clear hK K; simp only [thenQ, blockQ]
      refine AW.ret ?_
      simp only [blockQ, thenQ, bR, Nat.reduceEqDiff, reduceIte, Int.reduceBNe, Int.reduceBEq]
      simp [checkLook, hw, hr, hp]
    · cases h
  simp only [typR, useR, okR, e_fin, Bool.not_true, bR, Nat.reduceEqDiff, reduceIte, Int.reduceBNe, Int.reduceBEq]
  refine .lead _ (F65c m r (okM_mark hw) hlen) ?_
  try simp only [typR, useR, okR, e_fin, bR, Nat.reduceEqDiff, reduceIte, Int.reduceBNe, Int.reduceBEq]
  refine .flat _ (F67 m.wear (possG m r) places hpm (okPlaces_in hp)) rfl ?_
  generalize hs : settled m.wear (possG m r) places = bs
  cases bs
  · try simp only [typR, useR, okR, e_fin, bR, Nat.reduceEqDiff, reduceIte, Int.reduceBNe, Int.reduceBEq]
    refine .done (hK _ ?_); clear hK K; simp only [thenQ, blockQ]
    refine AW.ite ?_
    simp only [condQ, bR, Nat.reduceEqDiff, reduceIte, Int.reduceBNe, Int.reduceBEq]
    refine ⟨fun h => ?_, fun h => ?_⟩
    · refine AW.seq (AW.reg cd17_5 fun K hK => ?_)
      simp only [g17_5, bR, Nat.reduceEqDiff, reduceIte, Int.reduceBNe, Int.reduceBEq]
      refine .done (hK _ ?_); clear hK K; simp only [thenQ, blockQ]
      refine AW.ret ?_
      simp only [blockQ, thenQ, bR, Nat.reduceEqDiff, reduceIte, Int.reduceBNe, Int.reduceBEq]
      simp [checkLook, hw, hr, hp, hs]
    · cases h
  · try simp only [typR, useR, okR, e_fin, bR, Nat.reduceEqDiff, reduceIte, Int.reduceBNe, Int.reduceBEq]
    refine .done (hK _ ?_); clear hK K; simp only [thenQ, blockQ]
    refine AW.ite ?_
    simp only [condQ, bR, Nat.reduceEqDiff, reduceIte, Int.reduceBNe, Int.reduceBEq]
    refine ⟨fun h => ?_, fun h => ?_⟩
    · cases h
    refine AW.skip ?_; simp only [thenQ, blockQ, reduceIte, Nat.reduceEqDiff]
    refine AW.seq (AW.reg cd17_6 fun K hK => ?_)
    simp only [g17_6, bR, Nat.reduceEqDiff, reduceIte, Int.reduceBNe, Int.reduceBEq]
    refine .done (hK _ ?_); clear hK K; simp only [thenQ, blockQ]
    refine AW.ret ?_
    simp only [blockQ, thenQ, bR, Nat.reduceEqDiff, reduceIte, Int.reduceBNe, Int.reduceBEq]
    simp [checkLook, hw, hr, hp, hs]
end Go.Proofs.Ytkjkbpgdpnapfaa

/-
  FUNCTIONS OF THE REFERENCE BY CONTRACT: Look.
-/
namespace Go.Proofs.Ytkjkbpgdpnapfaa
open Go Go.Abs
open Go.Abs.Enc (enc)
theorem bit_has : ∀ s : Fin 64, ∀ i : Fin 6, hasB (s.1 : Int) i.1 = bit (s.1 : Int) i.1 := by decide +kernel
theorem bits_members {s : Nat} (h : s < 64) : ∀ n, n ≤ 6 → bitsOf s n = members (s : Int) n
  | 0, _ => rfl
  | n + 1, hn => by
    have := bit_has ⟨s, h⟩ ⟨n, by omega⟩
    simp only at this
    simp only [bitsOf, members, bits_members h n (by omega), this]
end Go.Proofs.Ytkjkbpgdpnapfaa

/-
  LOOKING AGAIN (in plain data): the places that are named settle a reading, no fewer do; what is left there.
-/
namespace Go.Proofs.Ytkjkbpgdpnapfaa
open Go Go.Abs
open Go.Abs.Enc (enc)
theorem okPlaces_bits : ∀ s : Fin 64, okPlaces (bitsOf s.1 6) = true := by decide +kernel
theorem bits_all : bitsOf 63 6 = [0, 1, 2, 3, 4, 5] := by decide +kernel
theorem apartAt_comm (w : Arr 5 Int) (a b : Arr 6 Int) (i : Nat) : apartAt w a b i = apartAt w b a i := by simp only [apartAt, band_comm]
theorem cnt_some {p : Nat → Bool} {n : Nat} (h : 0 < cnt p n) : ∃ i, i < n ∧ p i = true := by
  refine Classical.byContradiction fun hn => ?_
  have := cnt_zero (p := p) n fun i hi => by
    cases hp : p i with
    | false => rfl
    | true => exact absurd ⟨i, hi, hp⟩ hn
  omega
theorem settled_at {w : Arr 5 Int} {L : List Given} {places : List Int} (h : settled w L places = true) {i j : Nat} (hi : i < L.length) (hj : j < L.length) (e : i ≠ j) : ∃ k ∈ places, apartAt w (gl L i).mark (gl L j).mark k.toNat = true := by
  simp only [settled, settledAt, List.all_eq_true, List.mem_range] at h
  rcases Nat.lt_or_ge j i with h1 | h1
  · have := h i hi j h1
    simp only [apartIn, List.any_eq_true] at this
    exact this
  · have := h j hj i (by omega)
    simp only [apartIn, List.any_eq_true] at this
    obtain ⟨k, h2, h3⟩ := this
    exact ⟨k, h2, by rw [apartAt_comm]; exact h3⟩
/-- The possible ones stand in the book's order. -/
theorem filter_rise {α : Type} (r : α → α → Prop) (p : α → Bool) {l : List α} (h : l.Pairwise r) : (l.filter p).Pairwise r := h.filter p
theorem given_rise {m : Marks} (h : okM m = true) : m.given.Pairwise fun a b => ∃ i k, i < k ∧ k < m.given.length ∧ gv m i = a ∧ gv m k = b := by
  rw [List.pairwise_iff_getElem]
  intro i j hi hj hij
  exact ⟨i, j, hij, hj, (gv_eq hi).symm, (gv_eq hj).symm⟩
theorem poss_apart {m : Marks} (h : okM m = true) (r : Arr 6 Int) {i j : Nat} (hi : i < (possG m r).length) (hj : j < i) : 2 * m.fls < (cnt (apartAt m.wear (gl (possG m r) i).mark (gl (possG m r) j).mark) 6 : Int) := by
  have hp : (possG m r).Pairwise fun a b => ∃ i k, i < k ∧ k < m.given.length ∧ gv m i = a ∧ gv m k = b := filter_rise _ _ (given_rise h)
  rw [List.pairwise_iff_getElem] at hp
  obtain ⟨a, b, hab, hb, h1, h2⟩ := hp j i (by omega) hi hj
  rw [← gl_eq hi, ← gl_eq (show j < (possG m r).length by omega), ← h1, ← h2]
  exact okM_apart h hb (by omega) (by omega)
theorem settled_all {m : Marks} (h : okM m = true) (r : Arr 6 Int) : settled m.wear (possG m r) (bitsOf 63 6) = true := by
  obtain ⟨_, f0, _⟩ := okM_fls h
  rw [bits_all]
  simp only [settled, settledAt, List.all_eq_true, List.mem_range]
  intro i hi j hj
  have := poss_apart h r hi hj
  obtain ⟨k, hk, hp⟩ := cnt_some (p := apartAt m.wear (gl (possG m r) i).mark (gl (possG m r) j).mark) (n := 6) (by omega)
  simp only [apartIn, List.any_eq_true]
  match k, hk, hp with
  | 0, _, hp => exact ⟨0, by simp, hp⟩
  | 1, _, hp => exact ⟨1, by simp, hp⟩
  | 2, _, hp => exact ⟨2, by simp, hp⟩
  | 3, _, hp => exact ⟨3, by simp, hp⟩
  | 4, _, hp => exact ⟨4, by simp, hp⟩
  | 5, _, hp => exact ⟨5, by simp, hp⟩
  | n + 6, h, _ => exact absurd h (by omega)
theorem lookUp_inv (w : Arr 5 Int) (L : List Given) : ∀ s, ((lookUp w L s).2 = false ∧ ∀ t, t < s → settled w L (bitsOf t 6) = false) ∨
    ((lookUp w L s).2 = true ∧ (∃ t, t < s ∧ (lookUp w L s).1 = bitsOf t 6 ∧ settled w L (bitsOf t 6) = true) ∧ ∀ t, t < s → settled w L (bitsOf t 6) = true → (lookUp w L s).1.length ≤ (bitsOf t 6).length)
  | 0 => .inl ⟨rfl, fun t h => absurd h (by omega)⟩
  | s + 1 => by
    have ih := lookUp_inv w L s
    simp only [lookUp, lookStep]
    generalize lookUp w L s = p at ih ⊢
    obtain ⟨best, found⟩ := p
    simp only at ih ⊢
    by_cases hs : settled w L (bitsOf s 6) = true
    · by_cases hb : better found best (bitsOf s 6) = true
      · rw [if_pos (by simp [hs, hb])]
        right
        refine ⟨rfl, ⟨s, by omega, rfl, hs⟩, fun t ht hst => ?_⟩
        by_cases e : t = s
        · subst e; exact Nat.le_refl _
        · rcases ih with ⟨_, h2⟩ | ⟨h1, _, h3⟩
          · rw [h2 t (by omega)] at hst; cases hst
          · have := h3 t (by omega) hst
            simp only [better, h1, Bool.not_true, Bool.false_or, Bool.or_eq_true, Bool.and_eq_true, decide_eq_true_eq, beq_iff_eq] at hb
            simp only
            omega
      · have hb' : better found best (bitsOf s 6) = false := by simpa using hb
        rw [if_neg (by simp [hb'])]
        rcases ih with ⟨h1, h2⟩ | ⟨h1, ⟨t, h4, h5, h6⟩, h3⟩
        · subst h1; simp [better] at hb'
        · right
          refine ⟨h1, ⟨t, by omega, h5, h6⟩, fun t ht hst => ?_⟩
          by_cases e : t = s
          · subst e
            simp only [better, h1, Bool.not_true, Bool.false_or, Bool.or_eq_false_iff, decide_eq_false_iff_not] at hb'
            simp only
            omega
          · exact h3 t (by omega) hst
    · have hs' : settled w L (bitsOf s 6) = false := by simpa using hs
      rw [if_neg (by simp [hs'])]
      rcases ih with ⟨h1, h2⟩ | ⟨h1, ⟨t, h4, h5, h6⟩, h3⟩
      · left
        refine ⟨h1, fun t ht => ?_⟩
        by_cases e : t = s
        · subst e; exact hs'
        · exact h2 t (by omega)
      · right
        refine ⟨h1, ⟨t, by omega, h5, h6⟩, fun t ht hst => ?_⟩
        by_cases e : t = s
        · subst e; rw [hs'] at hst; cases hst
        · exact h3 t (by omega) hst
theorem look_good {m : Marks} (h : okM m = true) {r : Arr 6 Int} (hr : okReading r = true) : ∃ best, lookOf m r = (best, 0) ∧ okPlaces best = true ∧ settled m.wear (possG m r) best = true ∧ best.length ≤ 6 ∧ ∀ t, t < 64 → settled m.wear (possG m r) (bitsOf t 6) = true → best.length ≤ (bitsOf t 6).length := by
  rcases lookUp_inv m.wear (possG m r) 64 with ⟨_, h2⟩ | ⟨_, ⟨t, h4, h5, h6⟩, h3⟩
  · have := h2 63 (by omega)
    rw [settled_all h r] at this; cases this
  · refine ⟨(lookUp m.wear (possG m r) 64).1, by simp [lookOf, h, hr], ?_, by rw [h5]; exact h6, lookUp_le _ _ _, h3⟩
    rw [h5]; exact okPlaces_bits ⟨t, h4⟩
theorem check_good {m : Marks} (h : okM m = true) {r : Arr 6 Int} (hr : okReading r = true) {l : List Int} (h1 : okPlaces l = true) (h2 : settled m.wear (possG m r) l = true) : checkLook m r l = 0 := by simp [checkLook, h, hr, h1, h2]
theorem check_bad {m : Marks} (h : okM m = true) {r : Arr 6 Int} (hr : okReading r = true) {best : List Int} (h3 : ∀ t, t < 64 → settled m.wear (possG m r) (bitsOf t 6) = true → best.length ≤ (bitsOf t 6).length) {t : Nat} (ht : t < 64) (hl : (bitsOf t 6).length < best.length) : checkLook m r (bitsOf t 6) = 18 := by
  have : settled m.wear (possG m r) (bitsOf t 6) = false := by
    cases hs : settled m.wear (possG m r) (bitsOf t 6) with
    | false => rfl
    | true => have := h3 t ht hs; omega
  simp [checkLook, h, hr, this]
/-- All signs at some places. -/
def openUp (c : List Int) (r : Arr 6 Int) : Nat → Arr 6 Int
  | 0 => r
  | i + 1 => upd (openUp c r i) (at' c i % 6).toNat 31
theorem open_facts : ∀ x : Fin 32, (x.1 : Int) ≠ 0 → band (x.1 : Int) 31 ≠ 0 := by decide +kernel
theorem open_ok {c : List Int} {r : Arr 6 Int} (h : okReading r = true) : ∀ n, okReading (openUp c r n) = true
  | 0 => h
  | n + 1 => okReading_of fun j hj => by
    have h6 := mod6 (at' c n)
    simp only [openUp]
    rw [g_upd _ _ _ _ (by omega)]
    split
    · decide
    · exact okReading_at (open_ok h n) hj
theorem open_cost {w : Arr 5 Int} {a : Arr 6 Int} (hw : okWear w = true) (ha : okMark a = true) {c : List Int} {r : Arr 6 Int} : ∀ n, costOf w a (openUp c r n) ≤ costOf w a r
  | 0 => by simp [openUp]
  | n + 1 => by
    have h6 := mod6 (at' c n)
    have ih := open_cost hw ha (c := c) (r := r) n
    have := cnt_mono (costAt w a (openUp c r (n + 1))) (costAt w a (openUp c r n)) 6 fun i hi hc => by
      have s := sg_in hw ha hi
      simp only [costAt, openUp, beq_iff_eq] at hc ⊢
      rw [g_upd _ _ _ _ (by omega)] at hc
      split at hc
      · have f := open_facts ⟨(sg w a i).toNat, by omega⟩
        simp only [show (((sg w a i).toNat : Nat) : Int) = sg w a i by omega] at f
        exact absurd hc (f s.2)
      · exact hc
    simp only [costOf] at ih ⊢; omega
/-- More signs at all places. -/
def wideUp (c : List Int) (x : Arr 6 Int) : Nat → Arr 6 Int
  | 0 => x
  | i + 1 => upd (wideUp c x i) i (bor ((wideUp c x i).g i) (at' c (i + 1) % 32))
theorem wide_at {c : List Int} {x : Arr 6 Int} (h : okReading x = true) : ∀ n, n ≤ 6 → (okReading (wideUp c x n) = true ∧ ∀ v, 0 ≤ v ∧ v ≤ 31 → ∀ j, j < 6 → band v ((wideUp c x n).g j) = 0 → band v (x.g j) = 0)
  | 0, _ => ⟨h, fun _ _ _ _ h => h⟩
  | n + 1, hn => by
    obtain ⟨h1, h2⟩ := wide_at (c := c) h n (by omega)
    refine ⟨okReading_of fun j hj => ?_, fun v hv j hj hb => ?_⟩
    · simp only [wideUp]
      rw [g_upd _ _ _ _ (by omega)]
      split
      · exact bor_le (okReading_at h1 (by omega)) (mod32 _)
      · exact okReading_at h1 hj
    · simp only [wideUp] at hb
      rw [g_upd _ _ _ _ (by omega)] at hb
      split at hb
      · rename_i e
        subst e
        have g := okReading_at h1 hj
        exact h2 v hv n hj (bor_meets hv (by omega) (mod32 _) hb)
      · exact h2 v hv j hj hb
theorem worn_meets {w : Arr 5 Int} {a : Arr 6 Int} (hw : okWear w = true) (ha : okMark a = true) (c : List Int) {j : Nat} (hj : j < 6) : band (w.g (a.g j).toNat) ((wornUp w a c 6).g j) ≠ 0 := by
  obtain ⟨k, hk, e, hb⟩ := wornV_is hw ha c hj
  rw [wornUp_g w a c 6 (Nat.le_refl _) j hj, e]
  simpa [bit] using hb
theorem no_clash {w : Arr 5 Int} {x : Arr 6 Int} {places : List Int} {g : Given} (h : ∀ k ∈ places, band (w.g (g.mark.g k.toNat).toNat) (x.g k.toNat) ≠ 0) : clash w x places g = false := by
  simp only [clash]
  rw [List.any_eq_false]
  intro k hk
  simpa using h k hk
theorem poss_mem {m : Marks} {r : Arr 6 Int} {k : Nat} (hk : k < m.given.length) (h : costOf m.wear (gv m k).mark r ≤ m.fls) : gv m k ∈ possG m r := by
  simp only [possG, keep, List.mem_filter]
  refine ⟨by rw [← gv_eq hk]; exact List.getElem_mem hk, ?_⟩
  have : ¬ m.fls < costOf m.wear (gv m k).mark r := by omega
  simp [this]
theorem left_one {m : Marks} (h : okM m = true) {r : Arr 6 Int} {k : Nat} (hk : k < m.given.length) (hc : costOf m.wear (gv m k).mark r ≤ m.fls) {places : List Int} (hp : okPlaces places = true) (hs : settled m.wear (possG m r) places = true) (c : List Int) :
    lookedG m r (wornUp m.wear (gv m k).mark c 6) places = [gv m k] := by
  obtain ⟨hw, f0, f2⟩ := okM_fls h
  have ak := gv_mark h hk
  obtain ⟨q, hq, hqe⟩ := List.getElem_of_mem (poss_mem hk hc)
  have hin := okPlaces_in hp
  simp only [lookedG, keep]
  rw [filter_one _ (possG m r) q hq (fun i hi => ?_), hqe]
  by_cases e : i = q
  · subst e
    rw [hqe, no_clash fun j hj => worn_meets hw ak c (show j.toNat < 6 by have := hin j hj; omega)]
    simp
  · obtain ⟨j, hj, hap⟩ := settled_at hs hq hi (fun h => e h.symm)
    have hj6 : j.toNat < 6 := by have := hin j hj; omega
    have hgi : okMark (gl (possG m r) i).mark = true := okM_mark h _ (by rw [← gl_eq hi]; exact possG_mem (List.getElem_mem hi))
    have hgq : gl (possG m r) q = gv m k := by rw [← gl_eq hq, hqe]
    rw [hgq] at hap
    have hcl : clash m.wear (wornUp m.wear (gv m k).mark c 6) places (possG m r)[i] = true := by
      rw [gl_eq hi]
      simp only [clash, List.any_eq_true]
      refine ⟨j, hj, ?_⟩
      obtain ⟨v, hv, e1, hb⟩ := wornV_is hw ak c hj6
      rw [wornUp_g m.wear (gv m k).mark c 6 (Nat.le_refl _) j.toNat hj6, e1]
      have x1 := (sg_in hw ak hj6).1
      have y1 := (sg_in hw hgi hj6).1
      have hz : band (sg m.wear (gv m k).mark j.toNat) (sg m.wear (gl (possG m r) i).mark j.toNat) = 0 := by simpa [apartAt, sg] using hap
      have pf := part_facts ⟨(sg m.wear (gv m k).mark j.toNat).toNat, by omega⟩ ⟨(sg m.wear (gl (possG m r) i).mark j.toNat).toNat, by omega⟩ ⟨v, hv⟩
      simp only [show (((sg m.wear (gv m k).mark j.toNat).toNat : Nat) : Int) = sg m.wear (gv m k).mark j.toNat by omega, show (((sg m.wear (gl (possG m r) i).mark j.toNat).toNat : Nat) : Int) = sg m.wear (gl (possG m r) i).mark j.toNat by omega] at pf
      rcases pf hz with h2 | h2
      · have : band (sg m.wear (gv m k).mark j.toNat) (shl 1 v) ≠ 0 := by simpa [bit, sg] using hb
        exact absurd h2 this
      · exact beq_iff_eq.2 h2
    rw [hcl]; simp [e]
theorem left_more {m : Marks} (h : okM m = true) {r : Arr 6 Int} {k : Nat} (hk : k < m.given.length) (hc : costOf m.wear (gv m k).mark r ≤ m.fls) {places : List Int} (hp : okPlaces places = true) (c d : List Int) :
    (gv m k).owner ∈ (lookedG m r (wideUp d (wornUp m.wear (gv m k).mark c 6) 6) places).map (·.owner) := by
  obtain ⟨hw, f0, f2⟩ := okM_fls h
  have ak := gv_mark h hk
  have hin := okPlaces_in hp
  have hok := okReading_one (worn_one hw ak c)
  refine List.mem_map.2 ⟨gv m k, ?_, rfl⟩
  simp only [lookedG, keep, List.mem_filter]
  refine ⟨poss_mem hk hc, ?_⟩
  rw [no_clash fun j hj hb => ?_]
  · rfl
  · have hj6 : j.toNat < 6 := by have := hin j hj; omega
    have x1 := (sg_in hw ak hj6).1
    exact worn_meets hw ak c hj6 ((wide_at (c := d) hok 6 (Nat.le_refl _)).2 _ x1 j.toNat hj6 hb)
theorem left_all {m : Marks} {r : Arr 6 Int} {k : Nat} (hk : k < m.given.length) (hc : costOf m.wear (gv m k).mark r ≤ m.fls) (h1 : ¬ 1 < (possG m r).length) : possG m r = [gv m k] := by
  have := poss_mem hk hc
  generalize possG m r = L at this h1
  match L, this, h1 with
  | [a], h, _ => simp only [List.mem_singleton] at h; rw [h]
  | a :: b :: l, _, h => simp at h
end Go.Proofs.Ytkjkbpgdpnapfaa

