/-
  THE LAW MarkAgain BY CONTRACT.
-/
import Derived.Test.YtkjkbpgdpnapfaaRows
import Derived.Test.YtkjkbpgdpnapfaaMhe
set_option linter.unusedSimpArgs false
set_option linter.unusedVariables false
namespace Go.Proofs.Ytkjkbpgdpnapfaa
open Go Go.Abs
open Go.Abs.Enc (enc)
theorem F4 (l : List Int) (n2 : Arr 2 Int) (c : List Int) (hl : l.length ≤ 4611686018427387904) (hc : c.length ≤ 4611686018427387904) : Ctr Try.prog 4 [enc l, enc n2, enc c] (enc true) := by
  refine Ctr.mk' Try.func4 ca4 cc4 cr4 (Nat.le_of_ble_eq_true rfl) (fun hwf W0 D0 E1 => ?_)
  simp only [c4, r4, idx, Nat.zero_add, Nat.reduceAdd]
  obtain ⟨m, hm⟩ : ∃ m, m = made l := ⟨_, rfl⟩
  have hok : okM m = true := by rw [hm]; exact okM_made l
  have hlen : m.given.length ≤ 9 := by rw [hm]; exact made_len l
  obtain ⟨hw, hf0, hf2⟩ := okM_fls hok
  have t0 : (0 : Int).toNat = 0 := rfl
  have t1 : (1 : Int).toNat = 1 := rfl
  refine AW.seq (AW.reg cd4_0 fun K hK => ?_)
  simp only [g4_0, bR, Nat.reduceEqDiff, reduceIte, Int.reduceBNe, Int.reduceBEq]
  simp only [e_isVal, bR, Nat.reduceEqDiff, reduceIte, Int.reduceBNe, Int.reduceBEq]
  refine .done (hK _ ?_); clear hK K; simp only [thenQ, blockQ]
  refine AW.seq (AW.reg cd4_1 fun K hK => ?_)
  simp only [g4_1, bR, Nat.reduceEqDiff, reduceIte, Int.reduceBNe, Int.reduceBEq]
  try simp only [typR, useR, okR, e_fin, bR, Nat.reduceEqDiff, reduceIte, Int.reduceBNe, Int.reduceBEq]
  refine .lead _ (F22 l hl) ?_
  rw [← hm]
  simp only [typR, useR, okR, e_fin, e_a5, bR, Nat.reduceEqDiff, reduceIte, Int.reduceBNe, Int.reduceBEq]
  rw [stR3_ok (e_isVal _) (by rw [e_okS]; rfl) ((e_sh _).trans rfl)]
  simp only [setAt_nil, bR, Nat.reduceEqDiff, reduceIte, Int.reduceBNe, Int.reduceBEq]
  refine .done (hK _ ?_); clear hK K; simp only [thenQ, blockQ]
  refine AW.seq (AW.seq ?_)
  refine AW.reg cd4_2 fun K hK => ?_
  simp only [g4_2, bR, Nat.reduceEqDiff, reduceIte, Int.reduceBNe, Int.reduceBEq]
  try simp only [typR, useR, okR, e_fin, bR, Nat.reduceEqDiff, reduceIte, Int.reduceBNe, Int.reduceBEq]
  refine .done (hK _ ?_); clear hK K; simp only [thenQ, blockQ]
  refine AW.ite ?_
  simp only [condQ, bR, Nat.reduceEqDiff, reduceIte, Int.reduceBNe, Int.reduceBEq]
  refine ⟨fun h => ?_, fun h => ?_⟩
  · refine AW.seq (AW.reg cd4_3 fun K hK => ?_)
    simp only [g4_3, bR, Nat.reduceEqDiff, reduceIte, Int.reduceBNe, Int.reduceBEq]
    refine .flat _ F21 rfl ?_
    try simp only [typR, useR, okR, e_fin, bR, Nat.reduceEqDiff, reduceIte, Int.reduceBNe, Int.reduceBEq]
    refine .done (hK _ ?_); clear hK K; simp only [thenQ, blockQ]
    refine AW.ret ?_
    simp only [blockQ, thenQ, bR, Nat.reduceEqDiff, reduceIte, Int.reduceBNe, Int.reduceBEq]
  have hpos : 0 < m.given.length := by
    rcases Nat.eq_zero_or_pos m.given.length with h1 | h1
    · simp [h1] at h
    · exact h1
  refine AW.skip ?_; simp only [thenQ, blockQ, reduceIte, Nat.reduceEqDiff]
  obtain ⟨k, hkd⟩ : ∃ k, k = (n2.g 0 % (m.given.length : Int)).toNat := ⟨_, rfl⟩
  have hke : n2.g 0 % (m.given.length : Int) = (k : Int) := by
    have := Int.emod_nonneg (n2.g 0) (show (m.given.length : Int) ≠ 0 by omega)
    omega
  have hk : k < m.given.length := by
    have := Int.emod_lt_of_pos (n2.g 0) (show (0 : Int) < m.given.length by omega)
    omega
  have hgm : okMark (gv m k).mark = true := gv_mark hok hk
  refine AW.seq (AW.reg cd4_4 fun K hK => ?_)
  simp only [g4_4, bR, Nat.reduceEqDiff, reduceIte, Int.reduceBNe, Int.reduceBEq]
  simp only [typR, useR, okR, e_fin, inB_int 1 n2 (show (0 : Int) ≤ 0 ∧ (0 : Int) < (2 : Nat) by decide) rfl, t0, atL_g n2 (show 0 < 2 by decide), bR, Nat.reduceEqDiff, reduceIte, Int.reduceBNe, Int.reduceBEq]
  refine .flat _ (F23 (n2.g 0) m.given.length (by omega) (by omega)) rfl ?_
  rw [hke]
  simp only [typR, useR, okR, e_fin, isE_gv hk, e_a6, bR, Nat.reduceEqDiff, reduceIte, Int.reduceBNe, Int.reduceBEq]
  rw [stR3_ok (e_isVal _) (by rw [e_okS]; rfl) ((e_sh _).trans rfl)]
  simp only [setAt_nil, bR, Nat.reduceEqDiff, reduceIte, Int.reduceBNe, Int.reduceBEq]
  refine .done (hK _ ?_); clear hK K; simp only [thenQ, blockQ]
  obtain ⟨g, hg⟩ : ∃ g, g = gv m k := ⟨_, rfl⟩
  rw [← hg] at hgm
  rw [← hg]
  refine AW.seq (AW.reg cd4_5 fun K hK => ?_)
  simp only [g4_5, bR, Nat.reduceEqDiff, reduceIte, Int.reduceBNe, Int.reduceBEq]
  simp only [typR, useR, okR, e_fin, bR, Nat.reduceEqDiff, reduceIte, Int.reduceBNe, Int.reduceBEq]
  refine .lead _ (F24 m g.mark c hc hw hgm hf0 hf2) ?_
  obtain ⟨r0, hr0⟩ : ∃ r0, r0 = seenR m g.mark c := ⟨_, rfl⟩
  have hr0ok : okReading r0 = true := by rw [hr0]; exact seen_ok hw hgm c
  have hr0c : costOf m.wear g.mark r0 ≤ m.fls := by rw [hr0]; exact seen_cost hw hgm hf0 c
  rw [← hr0]
  simp only [typR, e_a6, stR3_6, bR, Nat.reduceEqDiff, reduceIte, Int.reduceBNe, Int.reduceBEq]
  refine .done (hK _ ?_); clear hK K; simp only [thenQ, blockQ]
  refine AW.seq (AW.seq ?_)
  refine AW.reg cd4_6 fun K hK => ?_
  simp only [g4_6, bR, Nat.reduceEqDiff, reduceIte, Int.reduceBNe, Int.reduceBEq]
  refine .done (hK _ ?_); clear hK K; simp only [thenQ, blockQ]
  refine AW.block (AW.loop (fun i : Nat => mkA [(2, enc c), (4, .ptr 4 []), (7, .ptr 7 []), (8, .ptr 8 []), (9, .ptr 9 []), (10, .int .i64 i)] [(4, .box (enc n2)), (7, .box (enc m)), (8, .box (enc g)), (9, .box (enc (openUp c r0 i)))]) (fun i => i ≤ 3) (fun i => 3 - i) 0 (by omega) ?_ (fun i hi => ?_))
  · simp only [openUp]
    refine Sub.of_lists ?_ ?_ ?_ ?_ <;> simp [subT, subO, onlyT, onlyO, isIn, look_cons, lookO_cons, lookO_nil, AV.only, AV.onlys, AO.only, onlys_map, onlys_append, e_only, e_int, e_bool]
  refine AW.seq (AW.seq ?_)
  refine AW.reg cd4_7 fun K hK => ?_
  simp only [g4_7, bR, Nat.reduceEqDiff, reduceIte, Int.reduceBNe, Int.reduceBEq]
  refine .done (hK _ ?_); clear hK K; simp only [thenQ, blockQ]
  refine AW.ite ?_
  simp only [condQ, bR, Nat.reduceEqDiff, reduceIte, Int.reduceBNe, Int.reduceBEq]
  refine ⟨fun h => ?_, fun h => ?_⟩
  · have hi3 : i < 3 := by simp at h; omega
    have m6 := mod6 (at' c i)
    have k6 : (at' c i % 6).toNat < 6 := by omega
    refine AW.skip ?_; simp only [thenQ, blockQ, reduceIte, Nat.reduceEqDiff]
    refine AW.seq (AW.block ?_)
    refine AW.reg cd4_8 fun K hK => ?_
    simp only [g4_8, bR, Nat.reduceEqDiff, reduceIte, Int.reduceBNe, Int.reduceBEq]
    try simp only [typR, useR, okR, e_fin, bR, Nat.reduceEqDiff, reduceIte, Int.reduceBNe, Int.reduceBEq]
    refine .flat _ (F25 c i hc) rfl ?_
    try simp only [typR, useR, okR, e_fin, bR, Nat.reduceEqDiff, reduceIte, Int.reduceBNe, Int.reduceBEq]
    refine .flat _ (F23 (at' c i) 6 (by decide) (by decide)) rfl ?_
    simp only [typR, useR, okR, inB_int 1 (openUp c r0 i) ⟨m6.1, m6.2⟩ rfl, atL_g (openUp c r0 i) k6, get_g (openUp c r0 i) k6, stR3_g (openUp c r0 i) k6, bR, Nat.reduceEqDiff, reduceIte, Int.reduceBNe, Int.reduceBEq]
    refine .done (hK _ ?_); clear hK K; simp only [thenQ, blockQ]
    refine AW.reg cd4_9 fun K hK => ?_
    simp only [g4_9, bR, Nat.reduceEqDiff, reduceIte, Int.reduceBNe, Int.reduceBEq]
    refine .done (hK _ ?_); clear hK K; simp only [thenQ, blockQ]
    refine ⟨i + 1, by omega, by omega, ?_⟩
    rw [wrap_id _ (by omega) (by omega), openUp]
    refine Sub.of_lists ?_ ?_ ?_ ?_ <;> simp [subT, subO, onlyT, onlyO, isIn, look_cons, lookO_cons, lookO_nil, AV.only, AV.onlys, AO.only, onlys_map, onlys_append, e_only, e_int, e_bool]
  have hi3 : i = 3 := by simp at h; omega
  subst hi3
  refine AW.exit ?_; simp only [thenQ, blockQ, reduceIte, Nat.reduceEqDiff]
  obtain ⟨r, hr⟩ : ∃ r, r = openUp c r0 3 := ⟨_, rfl⟩
  have hrok : okReading r = true := by rw [hr]; exact open_ok hr0ok 3
  have hrc : costOf m.wear g.mark r ≤ m.fls := by
    have := open_cost hw hgm (c := c) (r := r0) 3
    rw [hr]; omega
  rw [← hr]
  obtain ⟨best, hlook, hbp, hbs, hbl, hbm⟩ := look_good hok hrok
  refine AW.seq (AW.reg cd4_10 fun K hK => ?_)
  simp only [g4_10, bR, Nat.reduceEqDiff, reduceIte, Int.reduceBNe, Int.reduceBEq]
  try simp only [typR, useR, okR, e_fin, bR, Nat.reduceEqDiff, reduceIte, Int.reduceBNe, Int.reduceBEq]
  refine .lead _ (F12 m r) ?_
  simp only [hlook, typR, bR, Nat.reduceEqDiff, reduceIte, Int.reduceBNe, Int.reduceBEq]
  refine .done (hK _ ?_); clear hK K; simp only [thenQ, blockQ]
  obtain ⟨again, hag⟩ : ∃ again, again = wornUp m.wear g.mark c 6 := ⟨_, rfl⟩
  have hworn : wornR m.wear g.mark c = (again, 0) := by simp [wornR, hw, hgm, hag]
  have hagok : okReading again = true := by rw [hag]; exact okReading_one (worn_one hw hgm c)
  refine AW.seq (AW.reg cd4_11 fun K hK => ?_)
  simp only [g4_11, bR, Nat.reduceEqDiff, reduceIte, Int.reduceBNe, Int.reduceBEq]
  simp only [typR, useR, okR, e_fin, bR, Nat.reduceEqDiff, reduceIte, Int.reduceBNe, Int.reduceBEq]
  refine .lead _ (F19 m.wear g.mark c) ?_
  simp only [hworn, typR, useR, okR, e_fin, e_a6, stR3_6, bR, Nat.reduceEqDiff, reduceIte, Int.reduceBNe, Int.reduceBEq]
  refine .done (hK _ ?_); clear hK K; simp only [thenQ, blockQ]
  refine AW.seq (AW.seq ?_)
  refine AW.reg cd4_12 fun K hK => ?_
  simp only [g4_12, bR, Nat.reduceEqDiff, reduceIte, Int.reduceBNe, Int.reduceBEq]
  try simp only [typR, useR, okR, e_fin, bR, Nat.reduceEqDiff, reduceIte, Int.reduceBNe, Int.reduceBEq]
  refine .flat _ (F17 m r best) rfl ?_
  rw [check_good hok hrok hbp hbs]
  try simp only [typR, useR, okR, e_fin, bR, Nat.reduceEqDiff, reduceIte, Int.reduceBNe, Int.reduceBEq]
  refine .done (hK _ ?_); clear hK K; simp only [thenQ, blockQ]
  refine AW.ite ?_
  simp only [condQ, bR, Nat.reduceEqDiff, reduceIte, Int.reduceBNe, Int.reduceBEq]
  refine ⟨fun h => ?_, fun h => ?_⟩
  · first | cases h | simp at h
  refine AW.skip ?_; simp only [thenQ, blockQ, reduceIte, Nat.reduceEqDiff]
  obtain ⟨q, hq⟩ : ∃ q : Int, q = n2.g 1 % 64 := ⟨_, rfl⟩
  have hq0 : 0 ≤ q ∧ q < 64 := by rw [hq]; exact ⟨Int.emod_nonneg _ (by decide), Int.emod_lt_of_pos _ (by decide)⟩
  refine AW.seq (AW.reg cd4_14 fun K hK => ?_)
  simp only [g4_14, bR, Nat.reduceEqDiff, reduceIte, Int.reduceBNe, Int.reduceBEq]
  refine .done (hK _ ?_); clear hK K; simp only [thenQ, blockQ]
  refine AW.seq (AW.seq ?_)
  refine AW.reg cd4_15 fun K hK => ?_
  simp only [g4_15, bR, Nat.reduceEqDiff, reduceIte, Int.reduceBNe, Int.reduceBEq]
  refine .done (hK _ ?_); clear hK K; simp only [thenQ, blockQ]
  refine AW.block (AW.loop (fun i : Nat => mkA [(2, enc c), (4, .ptr 4 []), (7, .ptr 7 []), (8, .ptr 8 []), (9, .ptr 9 []), (11, enc best), (13, .ptr 13 []), (15, .own 15 (members q i).length), (16, .int .i64 i)] [(15, .row 3 1 ((members q i).map enc)), (4, .box (enc n2)), (7, .box (enc m)), (8, .box (enc g)), (9, .box (enc r)), (13, .box (enc again))]) (fun i => i ≤ 6) (fun i => 6 - i) 0 (by omega) ?_ (fun i hi => ?_))
  · refine Sub.adoptL 15 15 3 1 1 ?_ ?_ ?_
    · simp only [bR, Nat.reduceEqDiff, reduceIte, Int.reduceBNe, Int.reduceBEq]
    · simp only [bR, Nat.reduceEqDiff, reduceIte, Int.reduceBNe, Int.reduceBEq]
    · simp only [members, List.map_nil, List.length_nil]
      refine Sub.of_lists ?_ ?_ ?_ ?_ <;> simp [subT, subO, onlyT, onlyO, isIn, look_cons, lookO_cons, lookO_nil, AV.only, AV.onlys, AO.only, onlys_map, onlys_append, e_only, e_int, e_bool]
  refine AW.seq (AW.seq ?_)
  refine AW.reg cd4_16 fun K hK => ?_
  simp only [g4_16, bR, Nat.reduceEqDiff, reduceIte, Int.reduceBNe, Int.reduceBEq]
  refine .done (hK _ ?_); clear hK K; simp only [thenQ, blockQ]
  refine AW.ite ?_
  simp only [condQ, bR, Nat.reduceEqDiff, reduceIte, Int.reduceBNe, Int.reduceBEq]
  refine ⟨fun h => ?_, fun h => ?_⟩
  · have hi6 : i < 6 := by simp at h; omega
    have hml := members_le q i
    refine AW.skip ?_; simp only [thenQ, blockQ, reduceIte, Nat.reduceEqDiff]
    refine AW.seq (AW.block ?_)
    refine AW.seq (AW.reg cd4_17 fun K hK => ?_)
    simp only [g4_17, bR, Nat.reduceEqDiff, reduceIte, Int.reduceBNe, Int.reduceBEq]
    simp only [typR, useR, okR, e_fin, inB_int 1 n2 (show (0 : Int) ≤ 1 ∧ (1 : Int) < (2 : Nat) by decide) rfl, t1, atL_g n2 (show 1 < 2 by decide), bR, Nat.reduceEqDiff, reduceIte, Int.reduceBNe, Int.reduceBEq]
    refine .flat _ (F23 (n2.g 1) 64 (by decide) (by decide)) rfl ?_
    rw [← hq]
    try simp only [typR, useR, okR, e_fin, bR, Nat.reduceEqDiff, reduceIte, Int.reduceBNe, Int.reduceBEq]
    refine .done (hK _ ?_); clear hK K; simp only [thenQ, blockQ]
    refine AW.ite ?_
    simp only [condQ, bR, Nat.reduceEqDiff, reduceIte, Int.reduceBNe, Int.reduceBEq]
    refine ⟨fun h => ?_, fun h => ?_⟩
    · have hb : bit q i = true := h
      refine AW.reg cd4_18 fun K hK => ?_
      simp only [g4_18, bR, Nat.reduceEqDiff, reduceIte, Int.reduceBNe, Int.reduceBEq]
      rw [appR3_enc 3 1 8 15 rfl rfl (by simp) (by simp [maxLen]; omega) (by simp; omega)]
      simp only [bR, Nat.reduceEqDiff, reduceIte, Int.reduceBNe, Int.reduceBEq]
      refine .done (hK _ ?_); clear hK K; simp only [thenQ, blockQ]
      refine AW.reg cd4_19 fun K hK => ?_
      simp only [g4_19, bR, Nat.reduceEqDiff, reduceIte, Int.reduceBNe, Int.reduceBEq]
      refine .done (hK _ ?_); clear hK K; simp only [thenQ, blockQ]
      refine ⟨i + 1, by omega, by omega, ?_⟩
      rw [wrap_id _ (by omega) (by omega)]
      simp only [members, hb, reduceIte]
      refine Sub.of_lists ?_ ?_ ?_ ?_ <;> simp [subT, subO, onlyT, onlyO, isIn, look_cons, lookO_cons, lookO_nil, AV.only, AV.onlys, AO.only, onlys_map, onlys_append, e_only, e_int, e_bool]
    · have hb : bit q i = false := h
      refine AW.skip ?_; simp only [thenQ, blockQ, reduceIte, Nat.reduceEqDiff]
      refine AW.reg cd4_19 fun K hK => ?_
      simp only [g4_19, bR, Nat.reduceEqDiff, reduceIte, Int.reduceBNe, Int.reduceBEq]
      refine .done (hK _ ?_); clear hK K; simp only [thenQ, blockQ]
      refine ⟨i + 1, by omega, by omega, ?_⟩
      rw [wrap_id _ (by omega) (by omega)]
      simp only [members, hb, reduceIte, Bool.false_eq_true, List.append_nil]
      refine Sub.of_lists ?_ ?_ ?_ ?_ <;> simp [subT, subO, onlyT, onlyO, isIn, look_cons, lookO_cons, lookO_nil, AV.only, AV.onlys, AO.only, onlys_map, onlys_append, e_only, e_int, e_bool]
  have hi6 : i = 6 := by simp at h; omega
  subst hi6
  refine AW.exit ?_; simp only [thenQ, blockQ, reduceIte, Nat.reduceEqDiff]
  obtain ⟨other, hoth⟩ : ∃ other, members q 6 = other := ⟨_, rfl⟩
  have hob : other = bitsOf q.toNat 6 := by
    rw [bits_members (show q.toNat < 64 by omega) 6 (Nat.le_refl _), show ((q.toNat : Nat) : Int) = q by omega, hoth]
  have hol : other.length ≤ 6 := by rw [← hoth]; exact members_le q 6
  rw [hoth]
  refine AW.sub (B := mkA [(2, enc c), (7, .ptr 7 []), (8, .ptr 8 []), (9, .ptr 9 []), (11, enc best), (13, .ptr 13 []), (15, enc other)] [(7, .box (enc m)), (8, .box (enc g)), (9, .box (enc r)), (13, .box (enc again))]) (Sub.freeL (y := enc other) [15] 15 rfl ?_ ?_ ?_ ?_ ?_ ?_) ?_
  · simp only [keepO, List.filter_cons, List.filter_nil, List.contains_cons, List.contains_nil, Nat.reduceBEq, Bool.or_false, Bool.or_true, Bool.true_or, BEq.rfl, bR, Nat.reduceEqDiff, reduceIte, Int.reduceBNe, Int.reduceBEq]
  · simp [dropO, onlyO, AO.only, e_only]
  · simp [subT, fgt, look_cons, AV.only, e_only]
  · simp [subO, dropO, lookO_cons]
  · simp [onlyT, isIn, lookO_cons, AV.only, e_only]
  · simp [onlyO, AO.only, e_only]
  refine AW.seq ?_
  refine AW.seq (AW.via (mkA [(110, .bool false), (2, enc c), (7, .ptr 7 []), (8, .ptr 8 []), (9, .ptr 9 []), (11, enc best), (13, .ptr 13 [])] [(7, .box (enc m)), (8, .box (enc g)), (9, .box (enc r)), (13, .box (enc again))]) ?_ fun B hB => ?_)
  · refine AW.reg cd4_20 fun K hK => ?_
    simp only [g4_20, bR, Nat.reduceEqDiff, reduceIte, Int.reduceBNe, Int.reduceBEq]
    try simp only [typR, useR, okR, e_fin, bR, Nat.reduceEqDiff, reduceIte, Int.reduceBNe, Int.reduceBEq]
    generalize hz : decide ((other.length : Int) < best.length) = bz
    cases bz
    · try simp only [typR, useR, okR, e_fin, bR, Nat.reduceEqDiff, reduceIte, Int.reduceBNe, Int.reduceBEq]
      refine .done (hK _ ?_); clear hK K; simp only [thenQ, blockQ]
      refine Sub.of_lists ?_ ?_ ?_ ?_ <;> simp [subT, subO, onlyT, onlyO, isIn, look_cons, lookO_cons, lookO_nil, AV.only, AV.onlys, AO.only, onlys_map, onlys_append, e_only, e_int, e_bool]
    have hlt : other.length < best.length := by simpa using hz
    try simp only [typR, useR, okR, e_fin, bR, Nat.reduceEqDiff, reduceIte, Int.reduceBNe, Int.reduceBEq]
    refine .flat _ (F17 m r other) rfl ?_
    rw [hob, check_bad hok hrok hbm (show q.toNat < 64 by omega) (by rw [← hob]; exact hlt)]
    try simp only [typR, useR, okR, e_fin, bR, Nat.reduceEqDiff, reduceIte, Int.reduceBNe, Int.reduceBEq]
    refine .done (hK _ ?_); clear hK K; simp only [thenQ, blockQ]
    refine Sub.of_lists ?_ ?_ ?_ ?_ <;> simp [subT, subO, onlyT, onlyO, isIn, look_cons, lookO_cons, lookO_nil, AV.only, AV.onlys, AO.only, onlys_map, onlys_append, e_only, e_int, e_bool]
  simp only [thenQ, blockQ]
  refine AW.sub hB ?_
  refine AW.ite ?_
  simp only [condQ, bR, Nat.reduceEqDiff, reduceIte, Int.reduceBNe, Int.reduceBEq]
  refine ⟨fun h => ?_, fun h => ?_⟩
  · cases h
  refine AW.skip ?_; simp only [thenQ, blockQ, reduceIte, Nat.reduceEqDiff]
  obtain ⟨all, hall⟩ : ∃ all, all = (possG m r).map (·.owner) := ⟨_, rfl⟩
  have hown : ownersOf m r = (all, 0) := by simp [ownersOf, hok, hrok, hall, possG_owners]
  refine AW.seq (AW.reg cd4_22 fun K hK => ?_)
  simp only [g4_22, bR, Nat.reduceEqDiff, reduceIte, Int.reduceBNe, Int.reduceBEq]
  try simp only [typR, useR, okR, e_fin, bR, Nat.reduceEqDiff, reduceIte, Int.reduceBNe, Int.reduceBEq]
  refine .lead _ (F26 m r) ?_
  simp only [hown, typR, bR, Nat.reduceEqDiff, reduceIte, Int.reduceBNe, Int.reduceBEq]
  refine .done (hK _ ?_); clear hK K; simp only [thenQ, blockQ]
  have hl1 : lookedOf m r again best = ([g.owner], 0) := by
    have := left_one hok hk (r := r) (by rw [← hg]; exact hrc) hbp hbs c
    rw [← hg, ← hag] at this
    simp [lookedOf, hok, hrok, hagok, hbp, this]
  refine AW.seq (AW.reg cd4_23 fun K hK => ?_)
  simp only [g4_23, bR, Nat.reduceEqDiff, reduceIte, Int.reduceBNe, Int.reduceBEq]
  try simp only [typR, useR, okR, e_fin, bR, Nat.reduceEqDiff, reduceIte, Int.reduceBNe, Int.reduceBEq]
  refine .lead _ (F14 m r again best) ?_
  simp only [hl1, typR, bR, Nat.reduceEqDiff, reduceIte, Int.reduceBNe, Int.reduceBEq]
  refine .done (hK _ ?_); clear hK K; simp only [thenQ, blockQ]
  refine AW.seq (AW.reg cd4_24 fun K hK => ?_)
  simp only [g4_24, bR, Nat.reduceEqDiff, reduceIte, Int.reduceBNe, Int.reduceBEq]
  simp only [typR, useR, okR, e_fin, e_a6, stR3_6, bR, Nat.reduceEqDiff, reduceIte, Int.reduceBNe, Int.reduceBEq]
  refine .done (hK _ ?_); clear hK K; simp only [thenQ, blockQ]
  refine AW.seq (AW.seq ?_)
  refine AW.reg cd4_25 fun K hK => ?_
  simp only [g4_25, bR, Nat.reduceEqDiff, reduceIte, Int.reduceBNe, Int.reduceBEq]
  refine .done (hK _ ?_); clear hK K; simp only [thenQ, blockQ]
  refine AW.block (AW.loop (fun i : Nat => mkA [(2, enc c), (7, .ptr 7 []), (8, .ptr 8 []), (9, .ptr 9 []), (11, enc best), (17, enc all), (18, .int .i64 0), (19, enc [g.owner]), (20, .int .i64 0), (21, .ptr 21 []), (22, .int .i64 i)] [(7, .box (enc m)), (8, .box (enc g)), (9, .box (enc r)), (21, .box (enc (wideUp c again i)))]) (fun i => i ≤ 6) (fun i => 6 - i) 0 (by omega) ?_ (fun i hi => ?_))
  · simp only [wideUp]
    refine Sub.of_lists ?_ ?_ ?_ ?_ <;> simp [subT, subO, onlyT, onlyO, isIn, look_cons, lookO_cons, lookO_nil, AV.only, AV.onlys, AO.only, onlys_map, onlys_append, e_only, e_int, e_bool]
  refine AW.seq (AW.seq ?_)
  refine AW.reg cd4_26 fun K hK => ?_
  simp only [g4_26, bR, Nat.reduceEqDiff, reduceIte, Int.reduceBNe, Int.reduceBEq]
  refine .done (hK _ ?_); clear hK K; simp only [thenQ, blockQ]
  refine AW.ite ?_
  simp only [condQ, bR, Nat.reduceEqDiff, reduceIte, Int.reduceBNe, Int.reduceBEq]
  refine ⟨fun h => ?_, fun h => ?_⟩
  · have hi6 : i < 6 := by simp at h; omega
    have m32 := mod32 (at' c (i + 1))
    refine AW.skip ?_; simp only [thenQ, blockQ, reduceIte, Nat.reduceEqDiff]
    refine AW.seq (AW.block ?_)
    refine AW.reg cd4_27 fun K hK => ?_
    simp only [g4_27, bR, Nat.reduceEqDiff, reduceIte, Int.reduceBNe, Int.reduceBEq]
    simp only [typR, useR, okR, inB_nat 1 (wideUp c again i) hi6 rfl, atL_g (wideUp c again i) hi6, get_g (wideUp c again i) hi6, e_fin, bR, Nat.reduceEqDiff, reduceIte, Int.reduceBNe, Int.reduceBEq]
    rw [wrap_id _ (by omega) (by omega)]
    refine .flat _ (F25 c (i + 1) hc) rfl ?_
    try simp only [typR, useR, okR, e_fin, bR, Nat.reduceEqDiff, reduceIte, Int.reduceBNe, Int.reduceBEq]
    refine .flat _ (F23 (at' c (i + 1)) 32 (by decide) (by decide)) rfl ?_
    try simp only [typR, useR, okR, e_fin, bR, Nat.reduceEqDiff, reduceIte, Int.reduceBNe, Int.reduceBEq]
    simp only [typR, useR, okR, inB_nat 1 (wideUp c again i) hi6 rfl, atL_g (wideUp c again i) hi6, get_g (wideUp c again i) hi6, stR3_g (wideUp c again i) hi6, bR, Nat.reduceEqDiff, reduceIte, Int.reduceBNe, Int.reduceBEq]
    refine .done (hK _ ?_); clear hK K; simp only [thenQ, blockQ]
    refine AW.reg cd4_28 fun K hK => ?_
    simp only [g4_28, bR, Nat.reduceEqDiff, reduceIte, Int.reduceBNe, Int.reduceBEq]
    refine .done (hK _ ?_); clear hK K; simp only [thenQ, blockQ]
    refine ⟨i + 1, by omega, by omega, ?_⟩
    rw [wrap_id _ (by omega) (by omega), wideUp]
    refine Sub.of_lists ?_ ?_ ?_ ?_ <;> simp [subT, subO, onlyT, onlyO, isIn, look_cons, lookO_cons, lookO_nil, AV.only, AV.onlys, AO.only, onlys_map, onlys_append, e_only, e_int, e_bool]
    all_goals first | rfl | simp [bor]
  have hi6 : i = 6 := by simp at h; omega
  subst hi6
  refine AW.exit ?_; simp only [thenQ, blockQ, reduceIte, Nat.reduceEqDiff]
  obtain ⟨wide, hwd⟩ : ∃ wide, wide = wideUp c again 6 := ⟨_, rfl⟩
  have hwok : okReading wide = true := by rw [hwd]; exact (wide_at hagok 6 (Nat.le_refl _)).1
  rw [← hwd]
  obtain ⟨more, hmore⟩ : ∃ more, more = (lookedG m r wide best).map (·.owner) := ⟨_, rfl⟩
  have hl2 : lookedOf m r wide best = (more, 0) := by simp [lookedOf, hok, hrok, hwok, hbp, hmore]
  have hmem : g.owner ∈ more := by
    have := left_more hok hk (r := r) (by rw [← hg]; exact hrc) hbp c c
    rw [← hg, ← hag, ← hwd, ← hmore] at this
    exact this
  refine AW.seq (AW.reg cd4_29 fun K hK => ?_)
  simp only [g4_29, bR, Nat.reduceEqDiff, reduceIte, Int.reduceBNe, Int.reduceBEq]
  try simp only [typR, useR, okR, e_fin, bR, Nat.reduceEqDiff, reduceIte, Int.reduceBNe, Int.reduceBEq]
  refine .lead _ (F14 m r wide best) ?_
  simp only [hl2, typR, bR, Nat.reduceEqDiff, reduceIte, Int.reduceBNe, Int.reduceBEq]
  refine .done (hK _ ?_); clear hK K; simp only [thenQ, blockQ]
  refine AW.seq (AW.seq ?_)
  refine AW.reg cd4_30 fun K hK => ?_
  simp only [g4_30, bR, Nat.reduceEqDiff, reduceIte, Int.reduceBNe, Int.reduceBEq]
  try simp only [typR, useR, okR, e_fin, bR, Nat.reduceEqDiff, reduceIte, Int.reduceBNe, Int.reduceBEq]
  refine .flat _ (F27 more g.owner) rfl ?_
  rw [decide_eq_true hmem]
  simp only [typR, useR, okR, e_fin, Bool.not_true, bR, Nat.reduceEqDiff, reduceIte, Int.reduceBNe, Int.reduceBEq]
  refine .done (hK _ ?_); clear hK K; simp only [thenQ, blockQ]
  refine AW.ite ?_
  simp only [condQ, bR, Nat.reduceEqDiff, reduceIte, Int.reduceBNe, Int.reduceBEq]
  refine ⟨fun h => ?_, fun h => ?_⟩
  · first | cases h | simp at h
  refine AW.skip ?_; simp only [thenQ, blockQ, reduceIte, Nat.reduceEqDiff]
  refine AW.seq (AW.seq ?_)
  refine AW.reg cd4_32 fun K hK => ?_
  simp only [g4_32, bR, Nat.reduceEqDiff, reduceIte, Int.reduceBNe, Int.reduceBEq]
  try simp only [typR, useR, okR, e_fin, bR, Nat.reduceEqDiff, reduceIte, Int.reduceBNe, Int.reduceBEq]
  refine .done (hK _ ?_); clear hK K; simp only [thenQ, blockQ]
  refine AW.ite ?_
  simp only [condQ, bR, Nat.reduceEqDiff, reduceIte, Int.reduceBNe, Int.reduceBEq]
  refine ⟨fun h => ?_, fun h => ?_⟩
  · refine AW.seq (AW.reg cd4_33 fun K hK => ?_)
    simp only [g4_33, bR, Nat.reduceEqDiff, reduceIte, Int.reduceBNe, Int.reduceBEq]
    simp only [typR, useR, okR, e_fin, bR, Nat.reduceEqDiff, reduceIte, Int.reduceBNe, Int.reduceBEq]
    refine .flat _ (F16 [g.owner] [g.owner]) rfl ?_
    simp only [typR, useR, okR, e_fin, decide_true, bR, Nat.reduceEqDiff, reduceIte, Int.reduceBNe, Int.reduceBEq]
    refine .flat _ F21 rfl ?_
    try simp only [typR, useR, okR, e_fin, bR, Nat.reduceEqDiff, reduceIte, Int.reduceBNe, Int.reduceBEq]
    refine .done (hK _ ?_); clear hK K; simp only [thenQ, blockQ]
    refine AW.ret ?_
    simp only [blockQ, thenQ, bR, Nat.reduceEqDiff, reduceIte, Int.reduceBNe, Int.reduceBEq]
  have hall1 : all = [g.owner] := by
    have h1 : ¬ 1 < (possG m r).length := by
      rw [hall] at h; simp at h; omega
    have := left_all hk (r := r) (by rw [← hg]; exact hrc) h1
    rw [hall, this, hg]; rfl
  refine AW.skip ?_; simp only [thenQ, blockQ, reduceIte, Nat.reduceEqDiff]
  refine AW.seq (AW.reg cd4_34 fun K hK => ?_)
  simp only [g4_34, bR, Nat.reduceEqDiff, reduceIte, Int.reduceBNe, Int.reduceBEq]
  simp only [typR, useR, okR, e_fin, hall1, bR, Nat.reduceEqDiff, reduceIte, Int.reduceBNe, Int.reduceBEq]
  refine .flat _ (F16 [g.owner] [g.owner]) rfl ?_
  simp only [typR, useR, okR, e_fin, decide_true, bR, Nat.reduceEqDiff, reduceIte, Int.reduceBNe, Int.reduceBEq]
  refine .flat _ F21 rfl ?_
  try simp only [typR, useR, okR, e_fin, bR, Nat.reduceEqDiff, reduceIte, Int.reduceBNe, Int.reduceBEq]
  refine .done (hK _ ?_); clear hK K; simp only [thenQ, blockQ]
  refine AW.ret ?_
  simp only [blockQ, thenQ, bR, Nat.reduceEqDiff, reduceIte, Int.reduceBNe, Int.reduceBEq]
end Go.Proofs.Ytkjkbpgdpnapfaa

/-
  THE LAWS' ARGUMENTS, TAKEN AS DATA: the types of the statements.
-/
namespace Go.Proofs.Ytkjkbpgdpnapfaa
open Go Go.Abs Go.ChangeShapes Go.WideShapes Go.RowKit
open Go.Abs.Enc (enc)
theorem Try.own : ownKnob Try.prog.godebug = none := by kernel_rfl
theorem Try.laidOut : laidOutB Try.prog = true := by kernel_rfl
theorem oInt : Opens Try.prog 3 Int := opens_int (by kernel_rfl) (by kernel_rfl)
theorem oInts : Opens Try.prog 29 (List Int) := opens_list (by kernel_rfl) oInt (by kernel_rfl)
theorem rvs3 {w : World} {D : Dom} {E : Env} {x y z : AV} {a b c : Value} (hx : ∃ cs, isPack x a cs ∧ rc w D E x cs) (hy : ∃ cs, isPack y b cs ∧ rc w D E y cs) (hz : ∃ cs, isPack z c cs ∧ rc w D E z cs) : rvs w D E [x, y, z] [a, b, c] := by
  obtain ⟨c1, h1, h2⟩ := hx
  obtain ⟨c2, h3, h4⟩ := hy
  obtain ⟨c3, h5, h6⟩ := hz
  simp only [rvs]
  exact ⟨a, [b, c], c1, rfl, h1, h2, b, [c], c2, rfl, h3, h4, c, [], c3, rfl, h5, h6, rfl⟩
end Go.Proofs.Ytkjkbpgdpnapfaa

/-
  PROVED HERE: the law MarkAgain returns true for every input, and each argument reads afterwards as it read before. Conditions: none beyond the statement's own.
-/
namespace Go.Proofs.Ytkjkbpgdpnapfaa
open Go Go.Abs Go.ChangeShapes Go.WideShapes Go.ChangeAt Go.RowKit
open Go.Abs.Enc (enc)
theorem oTwo : Opens Try.prog 46 (Arr 2 Int) := opens_arr (isAr_spec (by kernel_rfl)) oInt (by kernel_rfl) (by decide)
set_option maxRecDepth 100000 in
theorem markAgain_lifted (os : Os) (started : os.Started) (H : Type) (enc0 : TypeId × Value → H) :
    ReturnsInHanded {} Try.checked os 4 .any (Rows.markAgainSpec.pre6 enc0 Try.prog Try.f4 Rows.markAgainRow.domain false) (Rows.markAgainSpec.post enc0 Try.prog Try.f4 false true false false) := by
  refine returnsInHanded_of_change_sized (C := Try.checked) Try.own started (by kernel_rfl) Try.func4
    (ChangeSpec.witness6 (enc := enc0) (C := Try.checked) false ⟨#[], #[.slice none 0 0, .agg #[.int .i64 0, .int .i64 0], .slice none 0 0], []⟩ 8 (by kernel_rfl) (by kernel_rfl) (by kernel_rfl) (by kernel_rfl)) ?_
  intro W base args ds gs before hval0 hW hcnd hz0 _
  have hval : ∀ (j : Nat) t v, Try.f4.params[j]? = some t → args[j]? = some v → Value.okWide Try.prog W .any base t v := hval0
  have hz : (DataW.weightsEach Try.prog (Try.f4.params.toList ++ Rows.markAgainSpec.plain.varTypes Try.prog) (ds ++ gs)).all (· ≤ reachBytes) = true := hz0
  have hW' := hW
  obtain ⟨p, q, hA0, hV, hbef, hfz, hnd⟩ := hW
  have hA : DataW.TrodAll enc0 Try.prog W 0 (fun _ => true) true Try.f4.params.toList args.toList ds p := hA0
  rw [Try.params4] at hA hval hz
  obtain ⟨v0, v1, v2, d0, d1, d2, p0, p1, p2, rfl, rfl, rfl, h0, h1, h2⟩ := trodAll_three hA
  obtain ⟨rfl, rfl⟩ := trodVars_none hV
  obtain ⟨a0, k0, l0⟩ := open_len oInts (e := 3) (by kernel_rfl) (hval 0 29 v0 rfl rfl) h0
  obtain ⟨a1, c1, k1⟩ := open_arg oTwo rfl (by kernel_rfl) (hval 1 46 v1 rfl rfl) h1
  obtain ⟨a2, k2, l2⟩ := open_len oInts (e := 3) (by kernel_rfl) (hval 2 29 v2 rfl rfl) h2
  have n0 := len_bound hz (j := 0) (t := 29) (e := 3) rfl rfl (by kernel_rfl) (of_decide_eq_true (by kernel_rfl)) l0
  have n2 := len_bound hz (j := 2) (t := 29) (e := 3) rfl rfl (by kernel_rfl) (of_decide_eq_true (by kernel_rfl)) l2
  exact law_post (tb := 4) Try.laidOut (by rw [Try.params4]) rfl rfl (by rw [hbef]; simp) rfl rfl (by kernel_rfl) (by kernel_rfl) hW' h0 h1 h2 (by
    intro t ht
    simp only [List.mem_cons, List.mem_nil_iff, or_false] at ht
    rcases ht with rfl | rfl | rfl <;> exact ⟨by kernel_rfl, of_decide_eq_true (by kernel_rfl)⟩) (F4 a0 a1 a2 (by omega) (by omega)) (rvs3 k0 ⟨c1, k1⟩ k2)
theorem markAgain_holds : Rows.MarkAgainSaid :=
  OpenClaim.holds_of_wide 4 Try.f4 rfl rfl rfl rfl rfl rfl rfl ⟨rfl, rfl, rfl, rfl, rfl⟩ rfl rfl rfl rfl rfl (by kernel_rfl) Try.func4 (by kernel_rfl)
    (of_decide_eq_true (by kernel_rfl)) (by unfold Func.isWrapper; first | (rw [if_pos (by decide +kernel)]; kernel_rfl) | (rw [if_neg (by decide +kernel)]; exact ⟨rfl, rfl⟩))
    (fun os started H enc0 _ => markAgain_lifted os started H enc0)
#print axioms markAgain_holds
end Go.Proofs.Ytkjkbpgdpnapfaa

