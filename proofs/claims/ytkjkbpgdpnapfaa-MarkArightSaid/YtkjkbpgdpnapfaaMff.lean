/-
  FUNCTIONS OF THE REFERENCE BY CONTRACT: Made.
-/
import Derived.Test.YtkjkbpgdpnapfaaRows
import Derived.Test.YtkjkbpgdpnapfaaMfe
set_option linter.unusedSimpArgs false
set_option linter.unusedVariables false
namespace Go.Proofs.Ytkjkbpgdpnapfaa
open Go Go.Abs
open Go.Abs.Enc (enc)
theorem bldM2 (w : Arr 5 Int) (n : Int) : setParts [enc (a5 0 0 0 0 0), .int .i64 0, .nils 7] [(0, enc w), (1, .int .i64 n)] = some [enc w, .int .i64 n, .nils 7] := by
  have h1 : ((enc w : AV).isVal = true ∧ (enc w : AV).size = (enc (a5 0 0 0 0 0)).size) := ⟨e_isVal _, by rw [e_size, e_size]⟩
  rw [setParts_cons (z := enc (a5 0 0 0 0 0)) rfl h1.1 h1.2, setParts_cons (v := .int .i64 n) (z := .int .i64 0) rfl rfl rfl]; rfl
theorem bookL (w : Arr 5 Int) (n : Int) (x : AV) (h1 : x.isVal = true) (h2 : x.sh = .one) (h3 : x.size = 1) : (AV.agg [enc w, .int .i64 n, x]).isVal = true ∧ okLd (some 7) (AV.agg [enc w, .int .i64 n, x]) = true ∧ (AV.agg [enc w, .int .i64 n, x]).sh = .many [.many (List.replicate 5 .one), .one, .one] := by
  refine ⟨rfl, ?_, ?_⟩
  · simp [okLd, AV.isAgg, AV.size, AV.sizes, e_size, h3, e_szArr, e_szInt]
  · simp [AV.sh, AV.shs, e_sh, h2, e_shArr, e_shInt]
theorem offB (w : Arr 5 Int) (n : Int) (x : AV) (v : AV) : offR [enc w, .int .i64 n, x] 2 6 v = some v := offR_eq (Nat.le_of_ble_eq_true rfl) (by simp [AV.sizes, AV.size, e_size, e_szArr, e_szInt])
theorem F22 (c : List Int) (hl : c.length ≤ 4611686018427387904) : Ctr Try.prog 22 [enc c] (enc (made c)) := by
  refine Ctr.mk' Try.func22 ca22 cc22 cr22 (Nat.le_of_ble_eq_true rfl) (fun hwf W0 D0 E1 => ?_)
  simp only [c22, r22, idx, Nat.zero_add, Nat.reduceAdd]
  refine AW.seq (AW.reg cd22_0 fun K hK => ?_)
  simp only [g22_0, bR, Nat.reduceEqDiff, reduceIte, Int.reduceBNe, Int.reduceBEq]
  refine .done (hK _ ?_); clear hK K; simp only [thenQ, blockQ]
  obtain ⟨w, hw⟩ : ∃ w, w = wears c 5 := ⟨_, rfl⟩
  obtain ⟨f, hf⟩ : ∃ f, f = at' c 5 % 2 := ⟨_, rfl⟩
  refine AW.seq (AW.reg cd22_1 fun K hK => ?_)
  simp only [g22_1, bR, Nat.reduceEqDiff, reduceIte, Int.reduceBNe, Int.reduceBEq]
  try simp only [typR, useR, okR, e_fin, bR, Nat.reduceEqDiff, reduceIte, Int.reduceBNe, Int.reduceBEq]
  refine .lead _ (F34 c hl) ?_
  try simp only [typR, useR, okR, e_fin, bR, Nat.reduceEqDiff, reduceIte, Int.reduceBNe, Int.reduceBEq]
  refine .flat _ (F25 c 5 hl) rfl ?_
  try simp only [typR, useR, okR, e_fin, bR, Nat.reduceEqDiff, reduceIte, Int.reduceBNe, Int.reduceBEq]
  refine .flat _ (F23 (at' c 5) 2 (by decide) (by decide)) rfl ?_
  simp only [e_a5, bldM2, ← hw, ← hf, bR, Nat.reduceEqDiff, reduceIte, Int.reduceBNe, Int.reduceBEq]
  obtain ⟨q1, q2, q3⟩ := bookL w f (.nils 7) rfl rfl rfl
  rw [stR3_ok q1 q2 (q3.trans (bookL (a5 0 0 0 0 0) 0 (.nils 7) rfl rfl rfl).2.2.symm)]
  simp only [setAt_nil, bR, Nat.reduceEqDiff, reduceIte, Int.reduceBNe, Int.reduceBEq]
  refine .done (hK _ ?_); clear hK K; simp only [thenQ, blockQ]
  refine AW.seq (AW.reg cd22_2 fun K hK => ?_)
  simp only [g22_2, bR, Nat.reduceEqDiff, reduceIte, Int.reduceBNe, Int.reduceBEq]
  refine .done (hK _ ?_); clear hK K; simp only [thenQ, blockQ]
  refine AW.seq (AW.seq ?_)
  refine AW.reg cd22_3 fun K hK => ?_
  simp only [g22_3, bR, Nat.reduceEqDiff, reduceIte, Int.reduceBNe, Int.reduceBEq]
  refine .done (hK _ ?_); clear hK K; simp only [thenQ, blockQ]
  refine AW.block (AW.loop (fun i : Nat => mkA [(0, enc c), (2, .ptr 2 []), (3, .ptr 3 []), (4, .int .i64 (madeUp c i).1), (5, .int .i64 i)] [(1, .row 43 7 ((madeUp c i).2.map enc)), (2, .box (.agg [enc (a5 0 0 0 0 0), .int .i64 0, .nils 7])), (3, .box (.agg [enc w, .int .i64 f, .own 1 (madeUp c i).2.length]))]) (fun i => i ≤ 12) (fun i => 12 - i) 0 (by omega) ?_ (fun i hi => ?_))
  · refine Sub.adoptBL 3 1 43 7 7 [2] (.agg [enc w, .int .i64 f, .nils 7]) ?_ rfl ?_ ?_
    · simp only [bR, Nat.reduceEqDiff, reduceIte, Int.reduceBNe, Int.reduceBEq]
    · simp only [bR, Nat.reduceEqDiff, reduceIte, Int.reduceBNe, Int.reduceBEq]
    · have e1 : (AV.agg [enc w, .int .i64 f, .nils 7]).setAt [2] (.own 1 0) = .agg [enc w, .int .i64 f, .own 1 0] := rfl
      rw [e1]
      simp only [madeUp, List.map_nil, List.length_nil]
      refine Sub.of_lists ?_ ?_ ?_ ?_ <;> simp [subT, subO, onlyT, onlyO, isIn, look_cons, lookO_cons, lookO_nil, AV.only, AV.onlys, AO.only, onlys_map, onlys_append, e_only, e_int, e_bool]
  obtain ⟨b1, b2, b3, _, _⟩ := made_ok c i
  have q4 := mod4 (c.getD i 0)
  have fin12 : ¬ (i < c.length ∧ i < 12 ∧ (madeUp c i).2.length < 9) → (made c).given = (madeUp c i).2 := by
    intro hn
    by_cases e : i = 12
    · subst e; rfl
    · have : madeUp c 12 = madeUp c i := madeUp_stop (fun hh => hn ⟨hh.1, by omega, hh.2⟩) 12 hi
      simp only [made, madeM, this]
  refine AW.seq (AW.seq ?_)
  refine AW.reg cd22_4 fun K hK => ?_
  simp only [g22_4, bR, Nat.reduceEqDiff, reduceIte, Int.reduceBNe, Int.reduceBEq]
  try simp only [typR, useR, okR, e_fin, bR, Nat.reduceEqDiff, reduceIte, Int.reduceBNe, Int.reduceBEq]
  generalize hz : decide ((i : Int) < c.length) = bz
  cases bz
  · have hout := fin12 (fun hh => by simp at hz; omega)
    try simp only [typR, useR, okR, e_fin, bR, Nat.reduceEqDiff, reduceIte, Int.reduceBNe, Int.reduceBEq]
    refine .done (hK _ ?_); clear hK K; simp only [thenQ, blockQ]
    refine AW.ite ?_
    simp only [condQ, bR, Nat.reduceEqDiff, reduceIte, Int.reduceBNe, Int.reduceBEq]
    refine ⟨fun h => ?_, fun h => ?_⟩
    · cases h
    refine AW.exit ?_; simp only [thenQ, blockQ, reduceIte, Nat.reduceEqDiff]
    refine AW.seq (AW.reg cd22_10 fun K hK => ?_)
    simp only [g22_10, bR, Nat.reduceEqDiff, reduceIte, Int.reduceBNe, Int.reduceBEq]
    obtain ⟨s1, s2, s3⟩ := bookL w f (.own 1 (madeUp c i).2.length) rfl rfl rfl
    simp only [s2, bR, Nat.reduceEqDiff, reduceIte, Int.reduceBNe, Int.reduceBEq]
    rw [stR3_ok s1 s2 (s3.trans (bookL (a5 0 0 0 0 0) 0 (.nils 7) rfl rfl rfl).2.2.symm)]
    simp only [setAt_nil, bR, Nat.reduceEqDiff, reduceIte, Int.reduceBNe, Int.reduceBEq]
    refine .done (hK _ ?_); clear hK K; simp only [thenQ, blockQ]
    refine AW.ret ?_
    simp only [blockQ, thenQ, bR, Nat.reduceEqDiff, reduceIte, Int.reduceBNe, Int.reduceBEq]
    simp only [s2, finO_enc (α := Given) 7 rfl rfl, typR, e_fin, bR, Nat.reduceEqDiff, reduceIte, Int.reduceBNe, Int.reduceBEq]
    have hfin : (⟨w, f, (madeUp c i).2⟩ : Marks) = made c := by rw [← hout, hw, hf]; rfl
    rw [e_M, hfin]
  have hic : i < c.length := by simpa using hz
  try simp only [typR, useR, okR, e_fin, bR, Nat.reduceEqDiff, reduceIte, Int.reduceBNe, Int.reduceBEq]
  generalize hz2 : decide ((i : Int) < 12) = bz
  cases bz
  · have hout := fin12 (fun hh => by simp at hz2; omega)
    try simp only [typR, useR, okR, e_fin, bR, Nat.reduceEqDiff, reduceIte, Int.reduceBNe, Int.reduceBEq]
    refine .done (hK _ ?_); clear hK K; simp only [thenQ, blockQ]
    refine AW.ite ?_
    simp only [condQ, bR, Nat.reduceEqDiff, reduceIte, Int.reduceBNe, Int.reduceBEq]
    refine ⟨fun h => ?_, fun h => ?_⟩
    · cases h
    refine AW.exit ?_; simp only [thenQ, blockQ, reduceIte, Nat.reduceEqDiff]
    refine AW.seq (AW.reg cd22_10 fun K hK => ?_)
    simp only [g22_10, bR, Nat.reduceEqDiff, reduceIte, Int.reduceBNe, Int.reduceBEq]
    obtain ⟨s1, s2, s3⟩ := bookL w f (.own 1 (madeUp c i).2.length) rfl rfl rfl
    simp only [s2, bR, Nat.reduceEqDiff, reduceIte, Int.reduceBNe, Int.reduceBEq]
    rw [stR3_ok s1 s2 (s3.trans (bookL (a5 0 0 0 0 0) 0 (.nils 7) rfl rfl rfl).2.2.symm)]
    simp only [setAt_nil, bR, Nat.reduceEqDiff, reduceIte, Int.reduceBNe, Int.reduceBEq]
    refine .done (hK _ ?_); clear hK K; simp only [thenQ, blockQ]
    refine AW.ret ?_
    simp only [blockQ, thenQ, bR, Nat.reduceEqDiff, reduceIte, Int.reduceBNe, Int.reduceBEq]
    simp only [s2, finO_enc (α := Given) 7 rfl rfl, typR, e_fin, bR, Nat.reduceEqDiff, reduceIte, Int.reduceBNe, Int.reduceBEq]
    have hfin : (⟨w, f, (madeUp c i).2⟩ : Marks) = made c := by rw [← hout, hw, hf]; rfl
    rw [e_M, hfin]
  have hi12 : i < 12 := by simp at hz2; omega
  simp only [offB, typR, useR, okR, e_fin, bR, Nat.reduceEqDiff, reduceIte, Int.reduceBNe, Int.reduceBEq]
  rw [lenE_own _ 1 _ 43 7 (madeUp c i).2 (by simp only [bR, Nat.reduceEqDiff, reduceIte, Int.reduceBNe, Int.reduceBEq]) rfl]
  simp only [typR, useR, okR, e_fin, bR, Nat.reduceEqDiff, reduceIte, Int.reduceBNe, Int.reduceBEq]
  generalize hz3 : decide (((madeUp c i).2.length : Int) < 9) = bz
  cases bz
  · have hout := fin12 (fun hh => by simp at hz3; omega)
    try simp only [typR, useR, okR, e_fin, bR, Nat.reduceEqDiff, reduceIte, Int.reduceBNe, Int.reduceBEq]
    refine .done (hK _ ?_); clear hK K; simp only [thenQ, blockQ]
    refine AW.ite ?_
    simp only [condQ, bR, Nat.reduceEqDiff, reduceIte, Int.reduceBNe, Int.reduceBEq]
    refine ⟨fun h => ?_, fun h => ?_⟩
    · cases h
    refine AW.exit ?_; simp only [thenQ, blockQ, reduceIte, Nat.reduceEqDiff]
    refine AW.seq (AW.reg cd22_10 fun K hK => ?_)
    simp only [g22_10, bR, Nat.reduceEqDiff, reduceIte, Int.reduceBNe, Int.reduceBEq]
    obtain ⟨s1, s2, s3⟩ := bookL w f (.own 1 (madeUp c i).2.length) rfl rfl rfl
    simp only [s2, bR, Nat.reduceEqDiff, reduceIte, Int.reduceBNe, Int.reduceBEq]
    rw [stR3_ok s1 s2 (s3.trans (bookL (a5 0 0 0 0 0) 0 (.nils 7) rfl rfl rfl).2.2.symm)]
    simp only [setAt_nil, bR, Nat.reduceEqDiff, reduceIte, Int.reduceBNe, Int.reduceBEq]
    refine .done (hK _ ?_); clear hK K; simp only [thenQ, blockQ]
    refine AW.ret ?_
    simp only [blockQ, thenQ, bR, Nat.reduceEqDiff, reduceIte, Int.reduceBNe, Int.reduceBEq]
    simp only [s2, finO_enc (α := Given) 7 rfl rfl, typR, e_fin, bR, Nat.reduceEqDiff, reduceIte, Int.reduceBNe, Int.reduceBEq]
    have hfin : (⟨w, f, (madeUp c i).2⟩ : Marks) = made c := by rw [← hout, hw, hf]; rfl
    rw [e_M, hfin]
  have hi9 : (madeUp c i).2.length < 9 := by simp at hz3; omega
  try simp only [typR, useR, okR, e_fin, bR, Nat.reduceEqDiff, reduceIte, Int.reduceBNe, Int.reduceBEq]
  refine .done (hK _ ?_); clear hK K; simp only [thenQ, blockQ]
  refine AW.ite ?_
  simp only [condQ, bR, Nat.reduceEqDiff, reduceIte, Int.reduceBNe, Int.reduceBEq]
  refine ⟨fun h => ?_, fun h => ?_⟩
  case refine_2.true.true.true.refine_2 => cases h
  have hbk : okBook ⟨w, f, (madeUp c i).2⟩ := by rw [hw, hf]; exact okM_book (okM_madeM c (by omega))
  have hstep : madeUp c (i + 1) = madeStep c i (madeUp c i) := by simp only [madeUp, if_pos (show i < c.length ∧ (madeUp c i).2.length < 9 from ⟨hic, hi9⟩)]
  generalize madeUp c i = p at *
  obtain ⟨o, l⟩ := p
  simp only at *
  refine AW.skip ?_; simp only [thenQ, blockQ, reduceIte, Nat.reduceEqDiff]
  refine AW.seq (AW.block ?_)
  refine AW.seq (AW.reg cd22_5 fun K hK => ?_)
  simp only [g22_5, bR, Nat.reduceEqDiff, reduceIte, Int.reduceBNe, Int.reduceBEq]
  simp only [isE_getD hic, typR, useR, okR, e_fin, bR, Nat.reduceEqDiff, reduceIte, Int.reduceBNe, Int.reduceBEq]
  refine .flat _ (F23 (c.getD i 0) 4 (by decide) (by decide)) rfl ?_
  try simp only [typR, useR, okR, e_fin, bR, Nat.reduceEqDiff, reduceIte, Int.reduceBNe, Int.reduceBEq]
  rw [wrap_id _ (show -9223372036854775808 ≤ 1 + c.getD i 0 % 4 by omega) (by omega), wrap_id _ (by omega) (by omega)]
  refine .done (hK _ ?_); clear hK K; simp only [thenQ, blockQ]
  obtain ⟨o2, ho2⟩ : ∃ o2, o2 = o + (1 + c.getD i 0 % 4) := ⟨_, rfl⟩
  rw [← ho2]
  refine AW.seq (AW.reg cd22_6 fun K hK => ?_)
  simp only [g22_6, bR, Nat.reduceEqDiff, reduceIte, Int.reduceBNe, Int.reduceBEq]
  simp only [isE_getD hic, typR, useR, okR, e_fin, bR, Nat.reduceEqDiff, reduceIte, Int.reduceBNe, Int.reduceBEq]
  rw [wrap_id ((i : Int) * 2503) (by omega) (by omega)]
  refine .flat _ (F23 _ 15625 (by decide) (by decide)) rfl ?_
  try simp only [typR, useR, okR, e_fin, bR, Nat.reduceEqDiff, reduceIte, Int.reduceBNe, Int.reduceBEq]
  refine .lead _ (F35 _) ?_
  have hmark : digits (IntKind.i64.wrap (IntKind.i64.wrap (c.getD i 0 * 7) + i * 2503) % 15625) 6 = (madeG c i 0).mark := rfl
  rw [hmark]
  obtain ⟨mk, hmk⟩ : ∃ mk, mk = (madeG c i 0).mark := ⟨_, rfl⟩
  rw [← hmk]
  simp only [e_a6, bldG, e_G, stR3_G, typR, useR, okR, e_fin, bR, Nat.reduceEqDiff, reduceIte, Int.reduceBNe, Int.reduceBEq]
  refine .done (hK _ ?_); clear hK K; simp only [thenQ, blockQ]
  obtain ⟨s1, s2, s3⟩ := bookL w f (.own 1 l.length) rfl rfl rfl
  have hokm : okMark mk = true := by rw [hmk]; exact okMark_digits _
  refine AW.seq (AW.reg cd22_7 fun K hK => ?_)
  simp only [g22_7, bR, Nat.reduceEqDiff, reduceIte, Int.reduceBNe, Int.reduceBEq]
  simp only [s2, finO_enc (α := Given) 7 rfl rfl, typR, useR, okR, e_M, e_fin, bR, Nat.reduceEqDiff, reduceIte, Int.reduceBNe, Int.reduceBEq]
  refine .flat _ (F83 ⟨w, f, l⟩ mk hbk hokm) rfl ?_
  obtain ⟨near, hnear⟩ : ∃ near, near = l.any (fun h => tooNear ⟨w, f, l⟩ h.mark mk) := ⟨_, rfl⟩
  have hst : madeUp c (i + 1) = (o2, if near then l else l ++ [⟨o2, mk⟩]) := by
    rw [hstep, madeStep, hnear, ho2, hmk, hw, hf]; rfl
  have hnear' : (l.any fun g => decide ((cnt (apartAt w g.mark mk) 6 : Int) ≤ IntKind.i64.wrap (2 * f))) = near := by rw [hnear]; rfl
  simp only [hnear', typR, useR, okR, e_fin, bR, Nat.reduceEqDiff, reduceIte, Int.reduceBNe, Int.reduceBEq]
  refine .done (hK _ ?_); clear hK K; simp only [thenQ, blockQ]
  cases near
  · rw [if_neg (by simp)] at hst
    refine AW.ite ?_
    simp only [condQ, bR, Nat.reduceEqDiff, reduceIte, Int.reduceBNe, Int.reduceBEq]
    refine ⟨fun h => ?_, fun h => ?_⟩
    · refine AW.reg cd22_8 fun K hK => ?_
      simp only [g22_8, bR, Nat.reduceEqDiff, reduceIte, Int.reduceBNe, Int.reduceBEq]
      simp only [offB, bsE_one 7 (⟨o2, mk⟩ : Given) rfl, typR, useR, okR, e_fin, bR, Nat.reduceEqDiff, reduceIte, Int.reduceBNe, Int.reduceBEq]
      rw [appR3_enc (α := Given) 43 7 56 1 rfl rfl (by simp) (by simp [maxLen]; omega) (by simp; omega)]
      simp only [offB, typR, useR, okR, e_fin, bR, Nat.reduceEqDiff, reduceIte, Int.reduceBNe, Int.reduceBEq]
      rw [stR3_ok (s := none) (v := .own 1 (l ++ [(⟨o2, mk⟩ : Given)]).length) (old := .own 1 l.length) rfl rfl rfl]
      have hset : (AV.agg [enc w, .int .i64 f, .own 1 l.length]).setAt [2] (.own 1 (l ++ [(⟨o2, mk⟩ : Given)]).length) = .agg [enc w, .int .i64 f, .own 1 (l ++ [(⟨o2, mk⟩ : Given)]).length] := rfl
      simp only [hset, bR, Nat.reduceEqDiff, reduceIte, Int.reduceBNe, Int.reduceBEq]
      refine .done (hK _ ?_); clear hK K; simp only [thenQ, blockQ]
      refine AW.reg cd22_9 fun K hK => ?_
      simp only [g22_9, bR, Nat.reduceEqDiff, reduceIte, Int.reduceBNe, Int.reduceBEq]
      refine .done (hK _ ?_); clear hK K; simp only [thenQ, blockQ]
      refine ⟨i + 1, by omega, by omega, ?_⟩
      rw [wrap_id _ (by omega) (by omega), hst]
      refine Sub.of_lists ?_ ?_ ?_ ?_ <;> simp [subT, subO, onlyT, onlyO, isIn, look_cons, lookO_cons, lookO_nil, AV.only, AV.onlys, AO.only, onlys_map, onlys_append, e_only, e_int, e_bool]
    · cases h
  · rw [if_pos rfl] at hst
    refine AW.ite ?_
    simp only [condQ, bR, Nat.reduceEqDiff, reduceIte, Int.reduceBNe, Int.reduceBEq]
    refine ⟨fun h => ?_, fun h => ?_⟩
    · cases h
    refine AW.skip ?_; simp only [thenQ, blockQ, reduceIte, Nat.reduceEqDiff]
    refine AW.reg cd22_9 fun K hK => ?_
    simp only [g22_9, bR, Nat.reduceEqDiff, reduceIte, Int.reduceBNe, Int.reduceBEq]
    refine .done (hK _ ?_); clear hK K; simp only [thenQ, blockQ]
    refine ⟨i + 1, by omega, by omega, ?_⟩
    rw [wrap_id _ (by omega) (by omega), hst]
    refine Sub.of_lists ?_ ?_ ?_ ?_ <;> simp [subT, subO, onlyT, onlyO, isIn, look_cons, lookO_cons, lookO_nil, AV.only, AV.onlys, AO.only, onlys_map, onlys_append, e_only, e_int, e_bool]
end Go.Proofs.Ytkjkbpgdpnapfaa

/-
  THE LAW MarkAright BY CONTRACT.
-/
namespace Go.Proofs.Ytkjkbpgdpnapfaa
open Go Go.Abs
open Go.Abs.Enc (enc)
theorem bsR2 (r t : Arr 6 Int) : bsE 6 (some [enc r, enc t]) = some (enc [r, t]) := bsE_enc (ys := [r, t]) 6 rfl
theorem F6 (l : List Int) (which : Int) (c : List Int) (hl : l.length ≤ 4611686018427387904) (hc : c.length ≤ 4611686018427387904) : Ctr Try.prog 6 [enc l, enc which, enc c] (enc true) := by
  refine Ctr.mk' Try.func6 ca6 cc6 cr6 (Nat.le_of_ble_eq_true rfl) (fun hwf W0 D0 E1 => ?_)
  simp only [c6, r6, idx, Nat.zero_add, Nat.reduceAdd]
  obtain ⟨m, hm⟩ : ∃ m, m = made l := ⟨_, rfl⟩
  have hok : okM m = true := by rw [hm]; exact okM_made l
  have hlen : m.given.length ≤ 9 := by rw [hm]; exact made_len l
  obtain ⟨hw, hf0, hf2⟩ := okM_fls hok
  refine AW.seq (AW.reg cd6_0 fun K hK => ?_)
  simp only [g6_0, bR, Nat.reduceEqDiff, reduceIte, Int.reduceBNe, Int.reduceBEq]
  refine .done (hK _ ?_); clear hK K; simp only [thenQ, blockQ]
  refine AW.seq (AW.reg cd6_1 fun K hK => ?_)
  simp only [g6_1, bR, Nat.reduceEqDiff, reduceIte, Int.reduceBNe, Int.reduceBEq]
  try simp only [typR, useR, okR, e_fin, bR, Nat.reduceEqDiff, reduceIte, Int.reduceBNe, Int.reduceBEq]
  refine .lead _ (F22 l hl) ?_
  rw [← hm]
  simp only [typR, useR, okR, e_fin, e_a5, bR, Nat.reduceEqDiff, reduceIte, Int.reduceBNe, Int.reduceBEq]
  rw [stR3_ok (e_isVal _) (by rw [e_okS]; rfl) ((e_sh _).trans rfl)]
  simp only [setAt_nil, bR, Nat.reduceEqDiff, reduceIte, Int.reduceBNe, Int.reduceBEq]
  refine .done (hK _ ?_); clear hK K; simp only [thenQ, blockQ]
  refine AW.seq (AW.seq ?_)
  refine AW.reg cd6_2 fun K hK => ?_
  simp only [g6_2, bR, Nat.reduceEqDiff, reduceIte, Int.reduceBNe, Int.reduceBEq]
  try simp only [typR, useR, okR, e_fin, bR, Nat.reduceEqDiff, reduceIte, Int.reduceBNe, Int.reduceBEq]
  refine .done (hK _ ?_); clear hK K; simp only [thenQ, blockQ]
  refine AW.ite ?_
  simp only [condQ, bR, Nat.reduceEqDiff, reduceIte, Int.reduceBNe, Int.reduceBEq]
  refine ⟨fun h => ?_, fun h => ?_⟩
  · refine AW.seq (AW.reg cd6_3 fun K hK => ?_)
    simp only [g6_3, bR, Nat.reduceEqDiff, reduceIte, Int.reduceBNe, Int.reduceBEq]
    refine .flat _ F21 rfl ?_
    try simp only [typR, useR, okR, e_fin, bR, Nat.reduceEqDiff, reduceIte, Int.reduceBNe, Int.reduceBEq]
    refine .done (hK _ ?_); clear hK K; simp only [thenQ, blockQ]
    refine AW.ret ?_
    simp only [blockQ, thenQ, bR, Nat.reduceEqDiff, reduceIte, Int.reduceBNe, Int.reduceBEq]
  have hpos : 0 < m.given.length := by
    rcases Nat.eq_zero_or_pos m.given.length with h1 | h1
    · simp [h1] at h
    · exact h1
  refine AW.skip ?_; simp only [thenQ, blockQ, reduceIte, Nat.reduceEqDiff]
  obtain ⟨k, hkd⟩ : ∃ k, k = (which % (m.given.length : Int)).toNat := ⟨_, rfl⟩
  have hke : which % (m.given.length : Int) = (k : Int) := by
    have := Int.emod_nonneg which (show (m.given.length : Int) ≠ 0 by omega)
    omega
  have hk : k < m.given.length := by
    have := Int.emod_lt_of_pos which (show (0 : Int) < m.given.length by omega)
    omega
  have hgm : okMark (gv m k).mark = true := gv_mark hok hk
  refine AW.seq (AW.reg cd6_4 fun K hK => ?_)
  simp only [g6_4, bR, Nat.reduceEqDiff, reduceIte, Int.reduceBNe, Int.reduceBEq]
  try simp only [typR, useR, okR, e_fin, bR, Nat.reduceEqDiff, reduceIte, Int.reduceBNe, Int.reduceBEq]
  refine .flat _ (F23 which m.given.length (by omega) (by omega)) rfl ?_
  rw [hke]
  simp only [typR, useR, okR, e_fin, isE_gv hk, e_a6, bR, Nat.reduceEqDiff, reduceIte, Int.reduceBNe, Int.reduceBEq]
  rw [stR3_ok (e_isVal _) (by rw [e_okS]; rfl) ((e_sh _).trans rfl)]
  simp only [setAt_nil, bR, Nat.reduceEqDiff, reduceIte, Int.reduceBNe, Int.reduceBEq]
  refine .done (hK _ ?_); clear hK K; simp only [thenQ, blockQ]
  obtain ⟨g, hg⟩ : ∃ g, g = gv m k := ⟨_, rfl⟩
  rw [← hg] at hgm
  rw [← hg]
  refine AW.seq (AW.reg cd6_5 fun K hK => ?_)
  simp only [g6_5, bR, Nat.reduceEqDiff, reduceIte, Int.reduceBNe, Int.reduceBEq]
  simp only [typR, useR, okR, e_fin, bR, Nat.reduceEqDiff, reduceIte, Int.reduceBNe, Int.reduceBEq]
  refine .lead _ (F24 m g.mark c hc hw hgm hf0 hf2) ?_
  obtain ⟨r, hr⟩ : ∃ r, r = seenR m g.mark c := ⟨_, rfl⟩
  have hrok : okReading r = true := by rw [hr]; exact seen_ok hw hgm c
  have hrc : costOf m.wear g.mark r ≤ m.fls := by rw [hr]; exact seen_cost hw hgm hf0 c
  rw [← hr]
  simp only [typR, e_a6, stR3_6, bR, Nat.reduceEqDiff, reduceIte, Int.reduceBNe, Int.reduceBEq]
  refine .done (hK _ ?_); clear hK K; simp only [thenQ, blockQ]
  obtain ⟨all, hall⟩ : ∃ all, all = ownersIn m r m.given := ⟨_, rfl⟩
  have hown : ownersOf m r = (all, 0) := by simp [ownersOf, hok, hrok, hall]
  have hgin : g.owner ∈ all := by rw [hall, hg]; exact owner_in hk (by rw [← hg]; exact hrc)
  refine AW.seq (AW.reg cd6_6 fun K hK => ?_)
  simp only [g6_6, bR, Nat.reduceEqDiff, reduceIte, Int.reduceBNe, Int.reduceBEq]
  try simp only [typR, useR, okR, e_fin, bR, Nat.reduceEqDiff, reduceIte, Int.reduceBNe, Int.reduceBEq]
  refine .lead _ (F26 m r) ?_
  simp only [hown, typR, bR, Nat.reduceEqDiff, reduceIte, Int.reduceBNe, Int.reduceBEq]
  refine .done (hK _ ?_); clear hK K; simp only [thenQ, blockQ]
  refine AW.seq (AW.seq ?_)
  refine AW.reg cd6_7 fun K hK => ?_
  simp only [g6_7, bR, Nat.reduceEqDiff, reduceIte, Int.reduceBNe, Int.reduceBEq]
  simp only [typR, useR, okR, e_fin, bR, Nat.reduceEqDiff, reduceIte, Int.reduceBNe, Int.reduceBEq]
  refine .flat _ (F27 all g.owner) rfl ?_
  rw [decide_eq_true hgin]
  simp only [typR, useR, okR, e_fin, Bool.not_true, bR, Nat.reduceEqDiff, reduceIte, Int.reduceBNe, Int.reduceBEq]
  refine .done (hK _ ?_); clear hK K; simp only [thenQ, blockQ]
  refine AW.ite ?_
  simp only [condQ, bR, Nat.reduceEqDiff, reduceIte, Int.reduceBNe, Int.reduceBEq]
  refine ⟨fun h => ?_, fun h => ?_⟩
  · first | cases h | simp at h
  refine AW.skip ?_; simp only [thenQ, blockQ, reduceIte, Nat.reduceEqDiff]
  refine AW.seq (AW.reg cd6_9 fun K hK => ?_)
  simp only [g6_9, bR, Nat.reduceEqDiff, reduceIte, Int.reduceBNe, Int.reduceBEq]
  simp only [typR, useR, okR, e_fin, e_a6, stR3_6, bR, Nat.reduceEqDiff, reduceIte, Int.reduceBNe, Int.reduceBEq]
  refine .done (hK _ ?_); clear hK K; simp only [thenQ, blockQ]
  refine AW.seq (AW.seq ?_)
  refine AW.reg cd6_10 fun K hK => ?_
  simp only [g6_10, bR, Nat.reduceEqDiff, reduceIte, Int.reduceBNe, Int.reduceBEq]
  refine .done (hK _ ?_); clear hK K; simp only [thenQ, blockQ]
  refine AW.block (AW.loop (fun i : Nat => mkA [(2, enc c), (7, .ptr 7 []), (8, .ptr 8 []), (9, .ptr 9 []), (10, enc all), (12, .ptr 12 []), (13, .int .i64 i)] [(7, .box (enc m)), (8, .box (enc g)), (9, .box (enc r)), (12, .box (enc (fewUp c r i)))]) (fun i => i ≤ 6) (fun i => 6 - i) 0 (by omega) ?_ (fun i hi => ?_))
  · simp only [fewUp]
    refine Sub.of_lists ?_ ?_ ?_ ?_ <;> simp [subT, subO, onlyT, onlyO, isIn, look_cons, lookO_cons, lookO_nil, AV.only, AV.onlys, AO.only, onlys_map, onlys_append, e_only, e_int, e_bool]
  refine AW.seq (AW.seq ?_)
  refine AW.reg cd6_11 fun K hK => ?_
  simp only [g6_11, bR, Nat.reduceEqDiff, reduceIte, Int.reduceBNe, Int.reduceBEq]
  refine .done (hK _ ?_); clear hK K; simp only [thenQ, blockQ]
  refine AW.ite ?_
  simp only [condQ, bR, Nat.reduceEqDiff, reduceIte, Int.reduceBNe, Int.reduceBEq]
  refine ⟨fun h => ?_, fun h => ?_⟩
  · have hi6 : i < 6 := by simp at h; omega
    have hml := members_le (r.g i) 5
    refine AW.skip ?_; simp only [thenQ, blockQ, reduceIte, Nat.reduceEqDiff]
    refine AW.seq (AW.block ?_)
    refine AW.seq (AW.reg cd6_12 fun K hK => ?_)
    simp only [g6_12, bR, Nat.reduceEqDiff, reduceIte, Int.reduceBNe, Int.reduceBEq]
    simp only [typR, useR, okR, inB_nat 1 r hi6 rfl, atL_g r hi6, bR, Nat.reduceEqDiff, reduceIte, Int.reduceBNe, Int.reduceBEq]
    refine .lead _ (F33 (r.g i)) ?_
    try simp only [typR, useR, okR, e_fin, bR, Nat.reduceEqDiff, reduceIte, Int.reduceBNe, Int.reduceBEq]
    refine .done (hK _ ?_); clear hK K; simp only [thenQ, blockQ]
    refine AW.seq (AW.reg cd6_13 fun K hK => ?_)
    simp only [g6_13, bR, Nat.reduceEqDiff, reduceIte, Int.reduceBNe, Int.reduceBEq]
    try simp only [typR, useR, okR, e_fin, bR, Nat.reduceEqDiff, reduceIte, Int.reduceBNe, Int.reduceBEq]
    refine .done (hK _ ?_); clear hK K; simp only [thenQ, blockQ]
    refine AW.ite ?_
    simp only [condQ, bR, Nat.reduceEqDiff, reduceIte, Int.reduceBNe, Int.reduceBEq]
    refine ⟨fun h => ?_, fun h => ?_⟩
    · have hgt : 1 < (members (r.g i) 5).length := by simp at h; omega
      have hlt : (at' c i % (members (r.g i) 5).length).toNat < (members (r.g i) 5).length := by
        have h1 := Int.emod_nonneg (at' c i) (show ((members (r.g i) 5).length : Int) ≠ 0 by omega)
        have h2 := Int.emod_lt_of_pos (at' c i) (show (0 : Int) < (members (r.g i) 5).length by omega)
        omega
      have hq0 : 0 ≤ at' c i % (members (r.g i) 5).length := Int.emod_nonneg _ (by omega)
      have hin : 0 ≤ (members (r.g i) 5).getD (at' c i % (members (r.g i) 5).length).toNat 0 := by
        have hmm : (members (r.g i) 5).getD (at' c i % (members (r.g i) 5).length).toNat 0 ∈ members (r.g i) 5 := by rw [List.getD_eq_getElem?_getD, List.getElem?_eq_getElem hlt]; exact List.getElem_mem hlt
        exact (members_in 5 _ hmm).1
      refine AW.reg cd6_14 fun K hK => ?_
      simp only [g6_14, bR, Nat.reduceEqDiff, reduceIte, Int.reduceBNe, Int.reduceBEq]
      simp only [typR, useR, okR, inB_nat 1 r hi6 rfl, atL_g r hi6, e_fin, bR, Nat.reduceEqDiff, reduceIte, Int.reduceBNe, Int.reduceBEq]
      refine .flat _ (F25 c i hc) rfl ?_
      try simp only [typR, useR, okR, e_fin, bR, Nat.reduceEqDiff, reduceIte, Int.reduceBNe, Int.reduceBEq]
      refine .flat _ (F23 (at' c i) (members (r.g i) 5).length (by omega) (by omega)) rfl ?_
      have hqe : at' c i % ((members (r.g i) 5).length : Int) = (((at' c i % (members (r.g i) 5).length).toNat : Nat) : Int) := by omega
      rw [hqe]
      simp only [isE_getD hlt, typR, useR, okR, bR, Nat.reduceEqDiff, reduceIte, Int.reduceBNe, Int.reduceBEq]
      rw [if_pos hin]
      simp only [typR, useR, okR, bR, Nat.reduceEqDiff, reduceIte, Int.reduceBNe, Int.reduceBEq]
      have hv' : IntKind.i64.wrap ((BitVec.ofInt IntKind.i64.bits (r.g i) &&& BitVec.ofInt IntKind.i64.bits (cplI .i64 (IntKind.i64.wrap (1 * 2 ^ min ((members (r.g i) 5).getD (at' c i % (members (r.g i) 5).length).toNat 0).toNat IntKind.i64.bits)))).toNat : Int) = fewV c (r.g i) i := by rw [fewV, if_pos hgt]; rfl
      rw [hv']
      have hv0 : fewV c (r.g i) i = band (r.g i) (bnot (shl 1 ((members (r.g i) 5).getD (at' c i % (members (r.g i) 5).length).toNat 0).toNat)) := by rw [fewV, if_pos hgt]
      simp only [typR, useR, okR, inB_nat 1 (fewUp c r i) hi6 rfl, atL_g (fewUp c r i) hi6, get_g (fewUp c r i) hi6, stR3_g (fewUp c r i) hi6, bR, Nat.reduceEqDiff, reduceIte, Int.reduceBNe, Int.reduceBEq]
      refine .done (hK _ ?_); clear hK K; simp only [thenQ, blockQ]
      refine AW.reg cd6_15 fun K hK => ?_
      simp only [g6_15, bR, Nat.reduceEqDiff, reduceIte, Int.reduceBNe, Int.reduceBEq]
      refine .done (hK _ ?_); clear hK K; simp only [thenQ, blockQ]
      refine ⟨i + 1, by omega, by omega, ?_⟩
      rw [wrap_id _ (by omega) (by omega)]
      simp only [fewUp, if_pos hgt]
      refine Sub.of_lists ?_ ?_ ?_ ?_ <;> simp [subT, subO, onlyT, onlyO, isIn, look_cons, lookO_cons, lookO_nil, AV.only, AV.onlys, AO.only, onlys_map, onlys_append, e_only, e_int, e_bool]
    · have hgt : ¬ 1 < (members (r.g i) 5).length := by simp at h; omega
      refine AW.skip ?_; simp only [thenQ, blockQ, reduceIte, Nat.reduceEqDiff]
      refine AW.reg cd6_15 fun K hK => ?_
      simp only [g6_15, bR, Nat.reduceEqDiff, reduceIte, Int.reduceBNe, Int.reduceBEq]
      refine .done (hK _ ?_); clear hK K; simp only [thenQ, blockQ]
      refine ⟨i + 1, by omega, by omega, ?_⟩
      rw [wrap_id _ (by omega) (by omega)]
      simp only [fewUp, if_neg hgt]
      refine Sub.of_lists ?_ ?_ ?_ ?_ <;> simp [subT, subO, onlyT, onlyO, isIn, look_cons, lookO_cons, lookO_nil, AV.only, AV.onlys, AO.only, onlys_map, onlys_append, e_only, e_int, e_bool]
  have hi6 : i = 6 := by simp at h; omega
  subst hi6
  refine AW.exit ?_; simp only [thenQ, blockQ, reduceIte, Nat.reduceEqDiff]
  obtain ⟨s, hs⟩ : ∃ s, s = fewUp c r 6 := ⟨_, rfl⟩
  have hsok : okReading s = true := by rw [hs]; exact few_ok hrok
  rw [← hs]
  obtain ⟨fewer, hfew⟩ : ∃ fewer, fewer = ownersIn m s m.given := ⟨_, rfl⟩
  have hown2 : ownersOf m s = (fewer, 0) := by simp [ownersOf, hok, hsok, hfew]
  have hsub : ∀ o ∈ fewer, o ∈ all := by
    rw [hfew, hall, hs]
    exact owners_fewer fun h hh => few_cost hw (okM_mark hok h hh) hrok
  have hfl : fewer.length ≤ 9 := by rw [hfew]; exact Nat.le_trans (ownersIn_le m s m.given) hlen
  refine AW.seq (AW.reg cd6_16 fun K hK => ?_)
  simp only [g6_16, bR, Nat.reduceEqDiff, reduceIte, Int.reduceBNe, Int.reduceBEq]
  try simp only [typR, useR, okR, e_fin, bR, Nat.reduceEqDiff, reduceIte, Int.reduceBNe, Int.reduceBEq]
  refine .lead _ (F26 m s) ?_
  simp only [hown2, typR, bR, Nat.reduceEqDiff, reduceIte, Int.reduceBNe, Int.reduceBEq]
  refine .done (hK _ ?_); clear hK K; simp only [thenQ, blockQ]
  refine AW.seq (AW.seq ?_)
  refine AW.reg cd6_17 fun K hK => ?_
  simp only [g6_17, bR, Nat.reduceEqDiff, reduceIte, Int.reduceBNe, Int.reduceBEq]
  try simp only [typR, useR, okR, e_fin, bR, Nat.reduceEqDiff, reduceIte, Int.reduceBNe, Int.reduceBEq]
  refine .done (hK _ ?_); clear hK K; simp only [thenQ, blockQ]
  refine AW.ite ?_
  simp only [condQ, bR, Nat.reduceEqDiff, reduceIte, Int.reduceBNe, Int.reduceBEq]
  refine ⟨fun h => ?_, fun h => ?_⟩
  · first | cases h | simp at h
  refine AW.skip ?_; simp only [thenQ, blockQ, reduceIte, Nat.reduceEqDiff]
  refine AW.seq (AW.seq ?_)
  refine AW.reg cd6_19 fun K hK => ?_
  simp only [g6_19, bR, Nat.reduceEqDiff, reduceIte, Int.reduceBNe, Int.reduceBEq]
  refine .done (hK _ ?_); clear hK K; simp only [thenQ, blockQ]
  refine AW.block (AW.loop (fun i : Nat => mkA [(2, enc c), (7, .ptr 7 []), (8, .ptr 8 []), (9, .ptr 9 []), (10, enc all), (15, enc fewer), (17, .int .i64 i)] [(7, .box (enc m)), (8, .box (enc g)), (9, .box (enc r))]) (fun i => i ≤ fewer.length) (fun i => fewer.length - i) 0 (by omega) ?_ (fun i hi => ?_))
  · refine Sub.of_lists ?_ ?_ ?_ ?_ <;> simp [subT, subO, onlyT, onlyO, isIn, look_cons, lookO_cons, lookO_nil, AV.only, AV.onlys, AO.only, onlys_map, onlys_append, e_only, e_int, e_bool]
  refine AW.seq (AW.seq ?_)
  refine AW.reg cd6_20 fun K hK => ?_
  simp only [g6_20, bR, Nat.reduceEqDiff, reduceIte, Int.reduceBNe, Int.reduceBEq]
  try simp only [typR, useR, okR, e_fin, bR, Nat.reduceEqDiff, reduceIte, Int.reduceBNe, Int.reduceBEq]
  refine .done (hK _ ?_); clear hK K; simp only [thenQ, blockQ]
  refine AW.ite ?_
  simp only [condQ, bR, Nat.reduceEqDiff, reduceIte, Int.reduceBNe, Int.reduceBEq]
  refine ⟨fun h => ?_, fun h => ?_⟩
  · have hlt : i < fewer.length := by simpa using h
    have hmem : fewer.getD i 0 ∈ all := hsub _ (by rw [List.getD_eq_getElem?_getD, List.getElem?_eq_getElem hlt]; exact List.getElem_mem hlt)
    refine AW.skip ?_; simp only [thenQ, blockQ, reduceIte, Nat.reduceEqDiff]
    refine AW.seq (AW.block ?_)
    refine AW.seq (AW.reg cd6_21 fun K hK => ?_)
    simp only [g6_21, bR, Nat.reduceEqDiff, reduceIte, Int.reduceBNe, Int.reduceBEq]
    simp only [isE_getD hlt, typR, useR, okR, e_fin, bR, Nat.reduceEqDiff, reduceIte, Int.reduceBNe, Int.reduceBEq]
    refine .flat _ (F27 all (fewer.getD i 0)) rfl ?_
    rw [decide_eq_true hmem]
    simp only [typR, useR, okR, e_fin, Bool.not_true, bR, Nat.reduceEqDiff, reduceIte, Int.reduceBNe, Int.reduceBEq]
    refine .done (hK _ ?_); clear hK K; simp only [thenQ, blockQ]
    refine AW.ite ?_
    simp only [condQ, bR, Nat.reduceEqDiff, reduceIte, Int.reduceBNe, Int.reduceBEq]
    refine ⟨fun h => ?_, fun h => ?_⟩
    · first | cases h | simp at h
    refine AW.skip ?_; simp only [thenQ, blockQ, reduceIte, Nat.reduceEqDiff]
    refine AW.reg cd6_23 fun K hK => ?_
    simp only [g6_23, bR, Nat.reduceEqDiff, reduceIte, Int.reduceBNe, Int.reduceBEq]
    refine .done (hK _ ?_); clear hK K; simp only [thenQ, blockQ]
    refine ⟨i + 1, by omega, by omega, ?_⟩
    rw [wrap_id _ (by omega) (by omega)]
    refine Sub.of_lists ?_ ?_ ?_ ?_ <;> simp [subT, subO, onlyT, onlyO, isIn, look_cons, lookO_cons, lookO_nil, AV.only, AV.onlys, AO.only, onlys_map, onlys_append, e_only, e_int, e_bool]
  have hie : i = fewer.length := by simp at h; omega
  refine AW.exit ?_; simp only [thenQ, blockQ, reduceIte, Nat.reduceEqDiff]
  obtain ⟨r0, hr0⟩ : ∃ r0, r0 = wornUp m.wear g.mark c 6 := ⟨_, rfl⟩
  have hworn : wornR m.wear g.mark c = (r0, 0) := by simp [wornR, hw, hgm, hr0]
  refine AW.seq (AW.reg cd6_24 fun K hK => ?_)
  simp only [g6_24, bR, Nat.reduceEqDiff, reduceIte, Int.reduceBNe, Int.reduceBEq]
  simp only [typR, useR, okR, e_fin, bR, Nat.reduceEqDiff, reduceIte, Int.reduceBNe, Int.reduceBEq]
  refine .lead _ (F19 m.wear g.mark c) ?_
  simp only [hworn, typR, useR, okR, e_fin, e_a6, stR3_6, bR, Nat.reduceEqDiff, reduceIte, Int.reduceBNe, Int.reduceBEq]
  refine .done (hK _ ?_); clear hK K; simp only [thenQ, blockQ]
  refine AW.seq (AW.seq ?_)
  refine AW.reg cd6_25 fun K hK => ?_
  simp only [g6_25, bR, Nat.reduceEqDiff, reduceIte, Int.reduceBNe, Int.reduceBEq]
  refine .done (hK _ ?_); clear hK K; simp only [thenQ, blockQ]
  refine AW.block (AW.loop (fun i : Nat => mkA [(2, enc c), (7, .ptr 7 []), (8, .ptr 8 []), (9, .ptr 9 []), (10, enc all), (18, .ptr 18 []), (19, .int .i64 0), (20, .int .i64 i)] [(7, .box (enc m)), (8, .box (enc g)), (9, .box (enc r)), (18, .box (enc (falseUp c 1 4 r0 i)))]) (fun i => i ≤ m.fls.toNat) (fun i => m.fls.toNat - i) 0 (by omega) ?_ (fun i hi => ?_))
  · simp only [falseUp]
    refine Sub.of_lists ?_ ?_ ?_ ?_ <;> simp [subT, subO, onlyT, onlyO, isIn, look_cons, lookO_cons, lookO_nil, AV.only, AV.onlys, AO.only, onlys_map, onlys_append, e_only, e_int, e_bool]
  refine AW.seq (AW.seq ?_)
  refine AW.reg cd6_26 fun K hK => ?_
  simp only [g6_26, bR, Nat.reduceEqDiff, reduceIte, Int.reduceBNe, Int.reduceBEq]
  try simp only [typR, useR, okR, e_fin, bR, Nat.reduceEqDiff, reduceIte, Int.reduceBNe, Int.reduceBEq]
  refine .done (hK _ ?_); clear hK K; simp only [thenQ, blockQ]
  refine AW.ite ?_
  simp only [condQ, bR, Nat.reduceEqDiff, reduceIte, Int.reduceBNe, Int.reduceBEq]
  refine ⟨fun h => ?_, fun h => ?_⟩
  · have hlt : (i : Int) < m.fls := by simpa using h
    have m6 := mod6 (at' c (i + 1))
    have m5 := mod5 (at' c (i + 4))
    have k6 : (at' c (i + 1) % 6).toNat < 6 := by omega
    have hv : IntKind.i64.wrap (1 * 2 ^ min (at' c (i + 4) % 5).toNat IntKind.i64.bits) = shl 1 (at' c (i + 4) % 5).toNat := rfl
    refine AW.skip ?_; simp only [thenQ, blockQ, reduceIte, Nat.reduceEqDiff]
    refine AW.seq (AW.block ?_)
    refine AW.reg cd6_27 fun K hK => ?_
    simp only [g6_27, bR, Nat.reduceEqDiff, reduceIte, Int.reduceBNe, Int.reduceBEq]
    try simp only [typR, useR, okR, e_fin, bR, Nat.reduceEqDiff, reduceIte, Int.reduceBNe, Int.reduceBEq]
    rw [wrap_id _ (by omega) (by omega)]
    refine .flat _ (F25 c (i + 1) hc) rfl ?_
    try simp only [typR, useR, okR, e_fin, bR, Nat.reduceEqDiff, reduceIte, Int.reduceBNe, Int.reduceBEq]
    refine .flat _ (F23 (at' c (i + 1)) 6 (by decide) (by decide)) rfl ?_
    try simp only [typR, useR, okR, e_fin, bR, Nat.reduceEqDiff, reduceIte, Int.reduceBNe, Int.reduceBEq]
    rw [wrap_id _ (by omega) (by omega)]
    refine .flat _ (F25 c (i + 4) hc) rfl ?_
    try simp only [typR, useR, okR, e_fin, bR, Nat.reduceEqDiff, reduceIte, Int.reduceBNe, Int.reduceBEq]
    refine .flat _ (F23 (at' c (i + 4)) 5 (by decide) (by decide)) rfl ?_
    try simp only [typR, useR, okR, e_fin, bR, Nat.reduceEqDiff, reduceIte, Int.reduceBNe, Int.reduceBEq]
    rw [if_pos m5.1, hv]
    simp only [typR, useR, okR, inB_int 1 (falseUp c 1 4 r0 i) ⟨m6.1, m6.2⟩ rfl, atL_g (falseUp c 1 4 r0 i) k6, get_g (falseUp c 1 4 r0 i) k6, stR3_g (falseUp c 1 4 r0 i) k6, bR, Nat.reduceEqDiff, reduceIte, Int.reduceBNe, Int.reduceBEq]
    refine .done (hK _ ?_); clear hK K; simp only [thenQ, blockQ]
    refine AW.reg cd6_28 fun K hK => ?_
    simp only [g6_28, bR, Nat.reduceEqDiff, reduceIte, Int.reduceBNe, Int.reduceBEq]
    refine .done (hK _ ?_); clear hK K; simp only [thenQ, blockQ]
    refine ⟨i + 1, by omega, by omega, ?_⟩
    rw [wrap_id _ (by omega) (by omega), falseUp]
    refine Sub.of_lists ?_ ?_ ?_ ?_ <;> simp [subT, subO, onlyT, onlyO, isIn, look_cons, lookO_cons, lookO_nil, AV.only, AV.onlys, AO.only, onlys_map, onlys_append, e_only, e_int, e_bool]
  have hi2 : i = m.fls.toNat := by simp at h; omega
  subst hi2
  refine AW.exit ?_; simp only [thenQ, blockQ, reduceIte, Nat.reduceEqDiff]
  obtain ⟨t, ht⟩ : ∃ t, t = falseUp c 1 4 r0 m.fls.toNat := ⟨_, rfl⟩
  have hts : t = sharpR m (gv m k).mark c := by rw [ht, hr0, hg]; rfl
  have hone : ownerOf m t = (g.owner, 0) := by rw [hts, hg]; exact sharp_owners hok hk c
  have hboth : ofR m [r, t] = ([g.owner], 0) := by rw [hts, hg]; exact both_owners hok hk c hrok (by rw [← hg]; exact hrc)
  rw [← ht]
  refine AW.seq (AW.reg cd6_29 fun K hK => ?_)
  simp only [g6_29, bR, Nat.reduceEqDiff, reduceIte, Int.reduceBNe, Int.reduceBEq]
  try simp only [typR, useR, okR, e_fin, bR, Nat.reduceEqDiff, reduceIte, Int.reduceBNe, Int.reduceBEq]
  refine .lead _ (F29 m t) ?_
  simp only [hone, typR, bR, Nat.reduceEqDiff, reduceIte, Int.reduceBNe, Int.reduceBEq]
  refine .done (hK _ ?_); clear hK K; simp only [thenQ, blockQ]
  refine AW.seq (AW.reg cd6_30 fun K hK => ?_)
  simp only [g6_30, bR, Nat.reduceEqDiff, reduceIte, Int.reduceBNe, Int.reduceBEq]
  simp only [typR, useR, okR, e_fin, bsR2, bR, Nat.reduceEqDiff, reduceIte, Int.reduceBNe, Int.reduceBEq]
  refine .lead _ (F31 m [r, t]) ?_
  simp only [hboth, typR, bR, Nat.reduceEqDiff, reduceIte, Int.reduceBNe, Int.reduceBEq]
  refine .done (hK _ ?_); clear hK K; simp only [thenQ, blockQ]
  refine AW.seq (AW.reg cd6_31 fun K hK => ?_)
  simp only [g6_31, bR, Nat.reduceEqDiff, reduceIte, Int.reduceBNe, Int.reduceBEq]
  simp only [typR, useR, okR, e_fin, bR, Nat.reduceEqDiff, reduceIte, Int.reduceBNe, Int.reduceBEq]
  have hgo : (g.owner == g.owner) = true := BEq.rfl
  simp only [hgo, typR, useR, okR, e_fin, bR, Nat.reduceEqDiff, reduceIte, Int.reduceBNe, Int.reduceBEq]
  refine .flat _ (F16 [g.owner] [g.owner]) rfl ?_
  simp only [typR, useR, okR, e_fin, decide_true, bR, Nat.reduceEqDiff, reduceIte, Int.reduceBNe, Int.reduceBEq]
  refine .flat _ F21 rfl ?_
  try simp only [typR, useR, okR, e_fin, bR, Nat.reduceEqDiff, reduceIte, Int.reduceBNe, Int.reduceBEq]
  refine .done (hK _ ?_); clear hK K; simp only [thenQ, blockQ]
  refine AW.ret ?_
  simp only [blockQ, thenQ, bR, Nat.reduceEqDiff, reduceIte, Int.reduceBNe, Int.reduceBEq]
end Go.Proofs.Ytkjkbpgdpnapfaa

/-
  THE LAWS' ARGUMENTS, TAKEN AS DATA: the types of the statements.
-/
namespace Go.Proofs.Ytkjkbpgdpnapfaa
open Go Go.Abs Go.ChangeShapes Go.WideShapes Go.RowKit
open Go.Abs.Enc (enc)
theorem Try.own : ownKnob Try.prog.godebug = none := by kernel_rfl
theorem Try.laidOut : laidOutB Try.prog = true := by kernel_rfl
theorem oInt : Opens Try.prog 3 Int := opens_int (by kernel_rfl) (by kernel_rfl)
theorem oInts : Opens Try.prog 29 (List Int) := opens_list (by kernel_rfl) oInt (by kernel_rfl)
theorem rvs3 {w : World} {D : Dom} {E : Env} {x y z : AV} {a b c : Value} (hx : ∃ cs, isPack x a cs ∧ rc w D E x cs) (hy : ∃ cs, isPack y b cs ∧ rc w D E y cs) (hz : ∃ cs, isPack z c cs ∧ rc w D E z cs) : rvs w D E [x, y, z] [a, b, c] := by
  obtain ⟨c1, h1, h2⟩ := hx
  obtain ⟨c2, h3, h4⟩ := hy
  obtain ⟨c3, h5, h6⟩ := hz
  simp only [rvs]
  exact ⟨a, [b, c], c1, rfl, h1, h2, b, [c], c2, rfl, h3, h4, c, [], c3, rfl, h5, h6, rfl⟩
end Go.Proofs.Ytkjkbpgdpnapfaa

/-
  PROVED HERE: the law MarkAright returns true for every input, and each argument reads afterwards as it read before. Conditions: none beyond the statement's own.
-/
namespace Go.Proofs.Ytkjkbpgdpnapfaa
open Go Go.Abs Go.ChangeShapes Go.WideShapes Go.ChangeAt Go.RowKit
open Go.Abs.Enc (enc)
set_option maxRecDepth 100000 in
theorem markAright_lifted (os : Os) (started : os.Started) (H : Type) (enc0 : TypeId × Value → H) :
    ReturnsInHanded {} Try.checked os 6 .any (Rows.markArightSpec.pre6 enc0 Try.prog Try.f6 Rows.markArightRow.domain false) (Rows.markArightSpec.post enc0 Try.prog Try.f6 false true false false) := by
  refine returnsInHanded_of_change_sized (C := Try.checked) Try.own started (by kernel_rfl) Try.func6
    (ChangeSpec.witness6 (enc := enc0) (C := Try.checked) false ⟨#[], #[.slice none 0 0, .int .i64 0, .slice none 0 0], []⟩ 8 (by kernel_rfl) (by kernel_rfl) (by kernel_rfl) (by kernel_rfl)) ?_
  intro W base args ds gs before hval0 hW hcnd hz0 _
  have hval : ∀ (j : Nat) t v, Try.f6.params[j]? = some t → args[j]? = some v → Value.okWide Try.prog W .any base t v := hval0
  have hz : (DataW.weightsEach Try.prog (Try.f6.params.toList ++ Rows.markArightSpec.plain.varTypes Try.prog) (ds ++ gs)).all (· ≤ reachBytes) = true := hz0
  have hW' := hW
  obtain ⟨p, q, hA0, hV, hbef, hfz, hnd⟩ := hW
  have hA : DataW.TrodAll enc0 Try.prog W 0 (fun _ => true) true Try.f6.params.toList args.toList ds p := hA0
  rw [Try.params6] at hA hval hz
  obtain ⟨v0, v1, v2, d0, d1, d2, p0, p1, p2, rfl, rfl, rfl, h0, h1, h2⟩ := trodAll_three hA
  obtain ⟨rfl, rfl⟩ := trodVars_none hV
  obtain ⟨a0, k0, l0⟩ := open_len oInts (e := 3) (by kernel_rfl) (hval 0 29 v0 rfl rfl) h0
  obtain ⟨a1, c1, k1⟩ := open_cell oInt rfl (by kernel_rfl) (hval 1 3 v1 rfl rfl) h1
  obtain ⟨a2, k2, l2⟩ := open_len oInts (e := 3) (by kernel_rfl) (hval 2 29 v2 rfl rfl) h2
  have n0 := len_bound hz (j := 0) (t := 29) (e := 3) rfl rfl (by kernel_rfl) (of_decide_eq_true (by kernel_rfl)) l0
  have n2 := len_bound hz (j := 2) (t := 29) (e := 3) rfl rfl (by kernel_rfl) (of_decide_eq_true (by kernel_rfl)) l2
  exact law_post (tb := 4) Try.laidOut (by rw [Try.params6]) rfl rfl (by rw [hbef]; simp) rfl rfl (by kernel_rfl) (by kernel_rfl) hW' h0 h1 h2 (by
    intro t ht
    simp only [List.mem_cons, List.mem_nil_iff, or_false] at ht
    rcases ht with rfl | rfl | rfl <;> exact ⟨by kernel_rfl, of_decide_eq_true (by kernel_rfl)⟩) (F6 a0 a1 a2 (by omega) (by omega)) (rvs3 k0 ⟨c1, k1⟩ k2)
theorem markAright_holds : Rows.MarkArightSaid :=
  OpenClaim.holds_of_wide 6 Try.f6 rfl rfl rfl rfl rfl rfl rfl ⟨rfl, rfl, rfl, rfl, rfl⟩ rfl rfl rfl rfl rfl (by kernel_rfl) Try.func6 (by kernel_rfl)
    (of_decide_eq_true (by kernel_rfl)) (by unfold Func.isWrapper; first | (rw [if_pos (by decide +kernel)]; kernel_rfl) | (rw [if_neg (by decide +kernel)]; exact ⟨rfl, rfl⟩))
    (fun os started H enc0 _ => markAright_lifted os started H enc0)
#print axioms markAright_holds
end Go.Proofs.Ytkjkbpgdpnapfaa

