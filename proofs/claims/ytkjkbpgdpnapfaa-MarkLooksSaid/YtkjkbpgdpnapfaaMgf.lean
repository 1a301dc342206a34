/-
  FUNCTIONS OF THE REFERENCE BY CONTRACT: Worn.
-/
import Derived.Test.YtkjkbpgdpnapfaaRows
import Derived.Test.YtkjkbpgdpnapfaaMge
set_option linter.unusedSimpArgs false
set_option linter.unusedVariables false
namespace Go.Proofs.Ytkjkbpgdpnapfaa
open Go Go.Abs
open Go.Abs.Enc (enc)
theorem cut_eq (c : List Int) (i : Nat) {n : Nat} (hn : 0 < n) (h5 : n ≤ 1000) : at' c i % (n : Int) = ((cutAt c i n : Nat) : Int) := by
  unfold cutAt at'
  split
  · rename_i h; subst h; simp
  · rename_i h
    have hp : 0 < c.length := List.length_pos_iff.2 h
    have e : ((i : Int) % (c.length : Int)).toNat = i % c.length := by omega
    rw [if_pos hp, e]
    generalize c.getD (i % c.length) 0 = x
    obtain ⟨_, h2⟩ := tmod_wrap x n (by omega) (by omega)
    rw [h2]
    have := Int.emod_nonneg x (show (n : Int) ≠ 0 by omega)
    omega
theorem F20 (w : Arr 5 Int) (a : Arr 6 Int) (cuts : List Int) (hl : cuts.length ≤ 4611686018427387904) : Ctr Try.prog 20 [enc w, enc a, enc cuts] (.tuple [enc (wornR w a cuts).1, enc (wornR w a cuts).2]) := by
  refine Ctr.mk' Try.func20 ca20 cc20 cr20 (Nat.le_of_ble_eq_true rfl) (fun hwf W0 D0 E1 => ?_)
  simp only [c20, r20, idx, Nat.zero_add, Nat.reduceAdd]
  refine AW.seq (AW.reg cd20_0 fun K hK => ?_)
  simp only [g20_0, bR, Nat.reduceEqDiff, reduceIte, Int.reduceBNe, Int.reduceBEq]
  simp only [e_isVal, e_zero6, bR, Nat.reduceEqDiff, reduceIte, Int.reduceBNe, Int.reduceBEq]
  refine .done (hK _ ?_); clear hK K; simp only [thenQ, blockQ]
  refine AW.seq (AW.seq ?_)
  refine AW.reg cd20_1 fun K hK => ?_
  simp only [g20_1, bR, Nat.reduceEqDiff, reduceIte, Int.reduceBNe, Int.reduceBEq]
  try simp only [typR, useR, okR, e_fin, bR, Nat.reduceEqDiff, reduceIte, Int.reduceBNe, Int.reduceBEq]
  refine .flat _ (F44' w) rfl ?_
  try simp only [typR, useR, okR, e_fin, bR, Nat.reduceEqDiff, reduceIte, Int.reduceBNe, Int.reduceBEq]
  refine .done (hK _ ?_); clear hK K; simp only [thenQ, blockQ]
  generalize hw : okWear w = bw
  cases bw
  · refine AW.ite ?_
    simp only [condQ, bR, Nat.reduceEqDiff, reduceIte, Int.reduceBNe, Int.reduceBEq]
    refine ⟨fun h => ?_, fun h => ?_⟩
    · refine AW.seq (AW.reg cd20_2 fun K hK => ?_)
      simp only [g20_2, bR, Nat.reduceEqDiff, reduceIte, Int.reduceBNe, Int.reduceBEq]
      simp only [setParts, e_zero6, stR3_6, bR, Nat.reduceEqDiff, reduceIte, Int.reduceBNe, Int.reduceBEq]
      refine .done (hK _ ?_); clear hK K; simp only [thenQ, blockQ]
      refine AW.ret ?_
      simp only [blockQ, thenQ, bR, Nat.reduceEqDiff, reduceIte, Int.reduceBNe, Int.reduceBEq]
      simp only [typR, e_fin, bR, Nat.reduceEqDiff, reduceIte, Int.reduceBNe, Int.reduceBEq]
      simp [wornR, hw, e_int]
    · simp at h
  refine AW.ite ?_
  simp only [condQ, bR, Nat.reduceEqDiff, reduceIte, Int.reduceBNe, Int.reduceBEq]
  refine ⟨fun h => ?_, fun h => ?_⟩
  · simp at h
  refine AW.skip ?_; simp only [thenQ, blockQ, reduceIte, Nat.reduceEqDiff]
  refine AW.seq (AW.seq ?_)
  refine AW.reg cd20_3 fun K hK => ?_
  simp only [g20_3, bR, Nat.reduceEqDiff, reduceIte, Int.reduceBNe, Int.reduceBEq]
  try simp only [typR, useR, okR, e_fin, bR, Nat.reduceEqDiff, reduceIte, Int.reduceBNe, Int.reduceBEq]
  refine .flat _ (F42' a) rfl ?_
  try simp only [typR, useR, okR, e_fin, bR, Nat.reduceEqDiff, reduceIte, Int.reduceBNe, Int.reduceBEq]
  refine .done (hK _ ?_); clear hK K; simp only [thenQ, blockQ]
  generalize ha : okMark a = ba
  cases ba
  · refine AW.ite ?_
    simp only [condQ, bR, Nat.reduceEqDiff, reduceIte, Int.reduceBNe, Int.reduceBEq]
    refine ⟨fun h => ?_, fun h => ?_⟩
    · refine AW.seq (AW.reg cd20_4 fun K hK => ?_)
      simp only [g20_4, bR, Nat.reduceEqDiff, reduceIte, Int.reduceBNe, Int.reduceBEq]
      simp only [setParts, e_zero6, stR3_6, bR, Nat.reduceEqDiff, reduceIte, Int.reduceBNe, Int.reduceBEq]
      refine .done (hK _ ?_); clear hK K; simp only [thenQ, blockQ]
      refine AW.ret ?_
      simp only [blockQ, thenQ, bR, Nat.reduceEqDiff, reduceIte, Int.reduceBNe, Int.reduceBEq]
      simp only [typR, e_fin, bR, Nat.reduceEqDiff, reduceIte, Int.reduceBNe, Int.reduceBEq]
      simp [wornR, hw, ha, e_int]
    · simp at h
  refine AW.ite ?_
  simp only [condQ, bR, Nat.reduceEqDiff, reduceIte, Int.reduceBNe, Int.reduceBEq]
  refine ⟨fun h => ?_, fun h => ?_⟩
  · simp at h
  refine AW.skip ?_; simp only [thenQ, blockQ, reduceIte, Nat.reduceEqDiff]
  refine AW.seq (AW.reg cd20_5 fun K hK => ?_)
  simp only [g20_5, bR, Nat.reduceEqDiff, reduceIte, Int.reduceBNe, Int.reduceBEq]
  simp only [e_zero6, bR, Nat.reduceEqDiff, reduceIte, Int.reduceBNe, Int.reduceBEq]
  refine .done (hK _ ?_); clear hK K; simp only [thenQ, blockQ]
  refine AW.seq (AW.seq ?_)
  refine AW.reg cd20_6 fun K hK => ?_
  simp only [g20_6, bR, Nat.reduceEqDiff, reduceIte, Int.reduceBNe, Int.reduceBEq]
  refine .done (hK _ ?_); clear hK K; simp only [thenQ, blockQ]
  refine AW.block (AW.loop (fun i : Nat => mkA [(2, enc cuts), (3, .ptr 3 []), (4, .ptr 4 []), (6, .ptr 6 []), (8, .ptr 8 []), (9, .int .i64 i)] [(3, .box (enc w)), (4, .box (enc a)), (6, .box (enc zero6)), (8, .box (enc (wornUp w a cuts i)))]) (fun i => i ≤ 6) (fun i => 6 - i) 0 (by omega) ?_ (fun i hi => ?_))
  · simp only [wornUp]
    refine Sub.of_lists ?_ ?_ ?_ ?_ <;> simp [subT, subO, onlyT, onlyO, isIn, look_cons, lookO_cons, lookO_nil, AV.only, AV.onlys, AO.only, onlys_map, onlys_append, e_only, e_int, e_bool]
  refine AW.seq (AW.seq ?_)
  refine AW.reg cd20_7 fun K hK => ?_
  simp only [g20_7, bR, Nat.reduceEqDiff, reduceIte, Int.reduceBNe, Int.reduceBEq]
  refine .done (hK _ ?_); clear hK K; simp only [thenQ, blockQ]
  refine AW.ite ?_
  simp only [condQ, bR, Nat.reduceEqDiff, reduceIte, Int.reduceBNe, Int.reduceBEq]
  refine ⟨fun h => ?_, fun h => ?_⟩
  · have hi6 : i < 6 := by simp at h; omega
    have h1 := okMark_at ha hi6
    have h2 := okWear_at hw (show (a.g i).toNat < 5 by omega)
    have k5 : (a.g i).toNat < 5 := by omega
    refine AW.skip ?_; simp only [thenQ, blockQ, reduceIte, Nat.reduceEqDiff]
    refine AW.seq (AW.block ?_)
    refine AW.seq (AW.reg cd20_8 fun K hK => ?_)
    simp only [g20_8, bR, Nat.reduceEqDiff, reduceIte, Int.reduceBNe, Int.reduceBEq]
    simp only [useR, inB_nat 1 a hi6 rfl, atL_g a hi6, okR, bR, Nat.reduceEqDiff, reduceIte, Int.reduceBNe, Int.reduceBEq]
    simp only [useR, inB_int 1 w ⟨h1.1, h1.2⟩ rfl, atL_g w k5, okR, bR, Nat.reduceEqDiff, reduceIte, Int.reduceBNe, Int.reduceBEq]
    refine .lead _ (F33 (w.g (a.g i).toNat)) ?_
    try simp only [typR, useR, okR, e_fin, bR, Nat.reduceEqDiff, reduceIte, Int.reduceBNe, Int.reduceBEq]
    refine .done (hK _ ?_); clear hK K; simp only [thenQ, blockQ]
    have hL : signs w a i = members (w.g (a.g i).toNat) 5 := rfl
    rw [← hL]
    have hL5 : (signs w a i).length ≤ 5 := members_le _ 5
    have hL0 : 0 < (signs w a i).length := List.length_pos_of_mem (members_mem h2.2 5 (by omega))
    have hLi : ∀ x ∈ signs w a i, 0 ≤ x ∧ x < (5 : Nat) := members_in 5
    have hV : wornV w a cuts i = shl 1 ((signs w a i).getD (cutAt cuts i (signs w a i).length) 0).toNat := rfl
    have hcl := cutAt_lt cuts i hL0
    generalize hLL : signs w a i = L at hL5 hL0 hLi hV hcl ⊢
    have hin := hLi (L.getD (cutAt cuts i L.length) 0) (by rw [List.getD_eq_getElem?_getD, List.getElem?_eq_getElem hcl]; exact List.getElem_mem hcl)
    refine AW.reg cd20_9 fun K hK => ?_
    simp only [g20_9, bR, Nat.reduceEqDiff, reduceIte, Int.reduceBNe, Int.reduceBEq]
    try simp only [typR, useR, okR, e_fin, bR, Nat.reduceEqDiff, reduceIte, Int.reduceBNe, Int.reduceBEq]
    refine .flat _ (F25 cuts i hl) rfl ?_
    try simp only [typR, useR, okR, e_fin, bR, Nat.reduceEqDiff, reduceIte, Int.reduceBNe, Int.reduceBEq]
    refine .flat _ (F23 (at' cuts i) L.length (by omega) (by omega)) rfl ?_
    rw [cut_eq cuts i hL0 (by omega)]
    simp only [isE_getD hcl, typR, useR, okR, bR, Nat.reduceEqDiff, reduceIte, Int.reduceBNe, Int.reduceBEq]
    have hsh : IntKind.i64.wrap (1 * 2 ^ min (L.getD (cutAt cuts i L.length) 0).toNat IntKind.i64.bits) = wornV w a cuts i := hV.symm
    rw [if_pos hin.1, hsh]
    simp only [typR, useR, okR, inB_nat 1 (wornUp w a cuts i) hi6 rfl, atL_g (wornUp w a cuts i) hi6, get_g (wornUp w a cuts i) hi6, stR3_g (wornUp w a cuts i) hi6, bR, Nat.reduceEqDiff, reduceIte, Int.reduceBNe, Int.reduceBEq]
    refine .done (hK _ ?_); clear hK K; simp only [thenQ, blockQ]
    refine AW.reg cd20_10 fun K hK => ?_
    simp only [g20_10, bR, Nat.reduceEqDiff, reduceIte, Int.reduceBNe, Int.reduceBEq]
    refine .done (hK _ ?_); clear hK K; simp only [thenQ, blockQ]
    refine ⟨i + 1, by omega, by omega, ?_⟩
    rw [wrap_id _ (by omega) (by omega), wornUp]
    refine Sub.of_lists ?_ ?_ ?_ ?_ <;> simp [subT, subO, onlyT, onlyO, isIn, look_cons, lookO_cons, lookO_nil, AV.only, AV.onlys, AO.only, onlys_map, onlys_append, e_only, e_int, e_bool]
  · have h6 : i = 6 := by simp at h; omega
    subst h6
    refine AW.exit ?_; simp only [thenQ, blockQ, reduceIte, Nat.reduceEqDiff]
    refine AW.seq (AW.reg cd20_11 fun K hK => ?_)
    simp only [g20_11, bR, Nat.reduceEqDiff, reduceIte, Int.reduceBNe, Int.reduceBEq]
    simp only [typR, stR3_6, bR, Nat.reduceEqDiff, reduceIte, Int.reduceBNe, Int.reduceBEq]
    refine .done (hK _ ?_); clear hK K; simp only [thenQ, blockQ]
    refine AW.ret ?_
    simp only [blockQ, thenQ, bR, Nat.reduceEqDiff, reduceIte, Int.reduceBNe, Int.reduceBEq]
    simp only [typR, e_fin, bR, Nat.reduceEqDiff, reduceIte, Int.reduceBNe, Int.reduceBEq]
    simp [wornR, hw, ha, e_int]
end Go.Proofs.Ytkjkbpgdpnapfaa

/-
  FUNCTIONS BY CONTRACT: possible (its result taken as data), CheckLook, of mark and of the reference.
-/
namespace Go.Proofs.Ytkjkbpgdpnapfaa
open Go Go.Abs
open Go.Abs.Enc (enc)
theorem F65c (m : Marks) (r : Arr 6 Int) (hm : ∀ g ∈ m.given, okMark g.mark = true) (hlen : m.given.length ≤ 1000) : Ctr Try.prog 65 [enc m, enc r] (enc (possG m r)) := by
  refine Ctr.mk' Try.func65 ca65 cc65 cr65 (Nat.le_of_ble_eq_true rfl) (fun hwf W0 D0 E1 => ?_)
  simp only [c65, r65, idx, Nat.zero_add, Nat.reduceAdd]
  refine AW.seq (AW.reg cd65_0 fun K hK => ?_)
  simp only [g65_0, bR, Nat.reduceEqDiff, reduceIte, Int.reduceBNe, Int.reduceBEq]
  simp only [e_isVal, bR, Nat.reduceEqDiff, reduceIte, Int.reduceBNe, Int.reduceBEq]
  refine .done (hK _ ?_); clear hK K; simp only [thenQ, blockQ]
  refine AW.seq (AW.reg cd65_1 fun K hK => ?_)
  simp only [g65_1, bR, Nat.reduceEqDiff, reduceIte, Int.reduceBNe, Int.reduceBEq]
  simp only [typR, useR, okR, e_fin, bR, Nat.reduceEqDiff, reduceIte, Int.reduceBNe, Int.reduceBEq]
  refine .obj false [(7, 7)] [] [enc m.given] (clonePost m.given) rfl (F85 m.given hlen) Gvn.nil ⟨.inl ⟨(e_ren _ _).symm, e_only _ _, e_isVal _⟩, trivial⟩ ?_ ?_
  · rintro x os' (⟨_, h | h, rfl⟩ | ⟨_, k, rfl, rfl⟩)
    · subst h; exact Bck.nil (fun _ => rfl) (fun h => by cases h)
    · subst h; exact Bck.nil (fun _ => rfl) (fun h => by cases h)
    · exact Bck.new1 (fun p => map_only p _) (fun h => by cases h) rfl (fun h => by cases h) rfl (by decide)
  · have hd : AV.dones [.ref (enc m), .ref (enc r)] = true := by simp only [AV.dones, AV.done, e_closed, Bool.and_self]
    rintro x os' (⟨hn, h, rfl⟩ | ⟨hn, k, rfl, rfl⟩)
    · have hp : possG m r = [] := by simp [possG, keep, hn]
      have key : ∀ x, (x = .nils 7 ∨ x = .c0 7) → fin true (mkA [] []) x = some (enc ([] : List Given)) := by rintro x (rfl | rfl) <;> rfl
      have hren : ∀ x : AV, (x = .nils 7 ∨ x = .c0 7) → x.ren (rnm [(7, 7)]) = x ∧ x.isVal = true := by rintro x (rfl | rfl) <;> exact ⟨by simp only [AV.ren], rfl⟩
      rw [(hren x h).1]
      simp only [renR, List.nil_append, List.all_cons, List.all_nil, AV.isVal, Bool.and_self, bR, Nat.reduceEqDiff, reduceIte, Int.reduceBNe, Int.reduceBEq]
      have hfx : ∀ A, fin true A x = some (enc ([] : List Given)) := fun A => by rcases h with rfl | rfl <;> simp only [fin, e_list, List.map_nil] <;> rfl
      refine .free [2, 3] (enc ([] : List Given)) rfl (F73n 105 [.ref (enc m), .ref (enc r)] hd) ?_ ?_ ?_
      · simp only [hfx, keepO, List.filter_cons, List.filter_nil, List.contains_cons, Nat.reduceBEq, Bool.or_false, Bool.or_true, Bool.true_or, BEq.rfl, e_closed, bR, Nat.reduceEqDiff, reduceIte, Int.reduceBNe, Int.reduceBEq]
      · simp [dropO, onlyO]
      · simp only [fgt, dropO, List.filter_cons, List.filter_nil, List.contains_cons, Nat.reduceBEq, Bool.or_false, Bool.or_true, Bool.true_or, BEq.rfl, List.map_cons, List.map_nil, bR, Nat.reduceEqDiff, reduceIte, Int.reduceBNe, Int.reduceBEq]
        refine .done (hK _ ?_); clear hK K; simp only [thenQ, blockQ]
        refine AW.ret ?_
        simp only [blockQ, thenQ, bR, Nat.reduceEqDiff, reduceIte, Int.reduceBNe, Int.reduceBEq]
        simp only [hp, e_fin, bR, Nat.reduceEqDiff, reduceIte, Int.reduceBNe, Int.reduceBEq]
    · simp only [rowG, renR, rens_map_enc, List.cons_append, List.nil_append, List.all_cons, List.all_nil, AV.isVal, Bool.and_self, bR, Nat.reduceEqDiff, reduceIte, Int.reduceBNe, Int.reduceBEq]
      refine .obj true [(1000000, 7)] (rowG 1000000 m.given k) [.view 1000000 [] 7 0 m.given.length, .func 105 [.ref (enc m), .ref (enc r)]] (delPost 1000000 (possG m r)) rfl
        (F73 m.given 105 [.ref (enc m), .ref (enc r)] hd (fun g => decide (m.fls < costOf m.wear g.mark r)) (fun g hg => F105 m r g (hm g hg)) hlen k) ⟨?_, ?_⟩ ⟨.inl ⟨?_, ?_, rfl⟩, .inr ?_, trivial⟩ ?_ ?_
      · intro n x h
        simp only [rowG, lookO] at h
        split at h
        · rename_i hn'
          subst hn'
          simp only [Option.some.injEq] at h
          subst h
          exact ⟨by simp only [renR, rens_map_enc, bR, Nat.reduceEqDiff, reduceIte, Int.reduceBNe, Int.reduceBEq], map_only _ _, rfl⟩
        · cases h
      · intro a b ha hb _
        rw [isIn_one.1 ha, isIn_one.1 hb]
      · simp only [renR, bR, Nat.reduceEqDiff, reduceIte, Int.reduceBNe, Int.reduceBEq]
      · exact isIn_one.2 rfl
      · simp only [names, rowG, rnm, dropO, List.filter_cons, List.filter_nil, List.map_cons, List.map_nil, List.contains_cons, List.contains_nil, Nat.reduceBEq, Bool.or_false, Bool.or_true, Bool.true_or, BEq.rfl, e_closed, bR, Nat.reduceEqDiff, reduceIte, Int.reduceBNe, Int.reduceBEq]
      · rintro x os' ⟨k', rfl, rfl⟩
        exact Bck.one (fun p => map_only p _) (fun _ => map_lean _) (isIn_one.2 rfl) (fun _ => rfl)
      · rintro x os' ⟨k', rfl, rfl⟩
        simp only [rowG, renR, rens_map_enc, List.cons_append, List.nil_append, bR, Nat.reduceEqDiff, reduceIte, Int.reduceBNe, Int.reduceBEq]
        refine .done (hK _ ?_); clear hK K; simp only [thenQ, blockQ]
        refine AW.ret ?_
        simp only [blockQ, thenQ, bR, Nat.reduceEqDiff, reduceIte, Int.reduceBNe, Int.reduceBEq]
        simp only [finV_take (α := Given) (sz := 7) rfl, take_row, e_fin, bR, Nat.reduceEqDiff, reduceIte, Int.reduceBNe, Int.reduceBEq]
def checkLook (m : Marks) (r : Arr 6 Int) (places : List Int) : Int := if okM m then (if okReading r then (if okPlaces places && settled m.wear (possG m r) places then 0 else 18) else 12) else 13
theorem F17 (m : Marks) (r : Arr 6 Int) (places : List Int) : Ctr Try.prog 17 [enc m, enc r, enc places] (enc (checkLook m r places)) := by
  refine Ctr.mk' Try.func17 ca17 cc17 cr17 (Nat.le_of_ble_eq_true rfl) (fun hwf W0 D0 E1 => ?_)
  simp only [c17, r17, idx, Nat.zero_add, Nat.reduceAdd]
  refine AW.seq (AW.reg cd17_0 fun K hK => ?_)
  simp only [g17_0, bR, Nat.reduceEqDiff, reduceIte, Int.reduceBNe, Int.reduceBEq]
  simp only [e_isVal, bR, Nat.reduceEqDiff, reduceIte, Int.reduceBNe, Int.reduceBEq]
  refine .done (hK _ ?_); clear hK K; simp only [thenQ, blockQ]
  refine AW.seq ?_
  refine AW.seq (AW.reg cd17_1 fun K hK => ?_)
  simp only [g17_1, bR, Nat.reduceEqDiff, reduceIte, Int.reduceBNe, Int.reduceBEq]
  simp only [typR, useR, okR, e_fin, bR, Nat.reduceEqDiff, reduceIte, Int.reduceBNe, Int.reduceBEq]
  refine .flat _ (F47 m) rfl ?_
  simp only [typR, useR, okR, e_fin, bR, Nat.reduceEqDiff, reduceIte, Int.reduceBNe, Int.reduceBEq]
  refine .flat _ (F45 r) rfl ?_
  simp only [typR, useR, okR, e_fin, bs2, bR, Nat.reduceEqDiff, reduceIte, Int.reduceBNe, Int.reduceBEq]
  refine .flat _ (F64 _) rfl ?_
  rw [first2 _ _ 13 12 (by decide) (by decide)]
  simp only [bR, Nat.reduceEqDiff, reduceIte, Int.reduceBNe, Int.reduceBEq]
  refine .done (hK _ ?_); clear hK K; simp only [thenQ, blockQ]
  generalize hw : okM m = bw
  generalize hr : okReading r = br
  cases bw
  · refine AW.seq (AW.reg cd17_2 fun K hK => ?_)
    simp only [g17_2, bR, Nat.reduceEqDiff, reduceIte, Int.reduceBNe, Int.reduceBEq]
    refine .done (hK _ ?_); clear hK K; simp only [thenQ, blockQ]
    refine AW.ite ?_
    simp only [condQ, bR, Nat.reduceEqDiff, reduceIte, Int.reduceBNe, Int.reduceBEq]
    refine ⟨fun h => ?_, fun h => ?_⟩
    · refine AW.seq (AW.reg cd17_3 fun K hK => ?_)
      simp only [g17_3, bR, Nat.reduceEqDiff, reduceIte, Int.reduceBNe, Int.reduceBEq]
      refine .done (hK _ ?_); clear hK K; simp only [thenQ, blockQ]
      refine AW.ret ?_
      simp only [blockQ, thenQ, bR, Nat.reduceEqDiff, reduceIte, Int.reduceBNe, Int.reduceBEq]
      simp [checkLook, hw]
    · cases h
  cases br
  · refine AW.seq (AW.reg cd17_2 fun K hK => ?_)
    simp only [g17_2, bR, Nat.reduceEqDiff, reduceIte, Int.reduceBNe, Int.reduceBEq]
    refine .done (hK _ ?_); clear hK K; simp only [thenQ, blockQ]
    refine AW.ite ?_
    simp only [condQ, bR, Nat.reduceEqDiff, reduceIte, Int.reduceBNe, Int.reduceBEq]
    refine ⟨fun h => ?_, fun h => ?_⟩
    · refine AW.seq (AW.reg cd17_3 fun K hK => ?_)
      simp only [g17_3, bR, Nat.reduceEqDiff, reduceIte, Int.reduceBNe, Int.reduceBEq]
      refine .done (hK _ ?_); clear hK K; simp only [thenQ, blockQ]
      refine AW.ret ?_
      simp only [blockQ, thenQ, bR, Nat.reduceEqDiff, reduceIte, Int.reduceBNe, Int.reduceBEq]
      simp [checkLook, hw, hr]
    · cases h
  refine AW.seq (AW.reg cd17_2 fun K hK => ?_)
  simp only [g17_2, bR, Nat.reduceEqDiff, reduceIte, Int.reduceBNe, Int.reduceBEq]
  refine .done (hK _ ?_); clear hK K; simp only [thenQ, blockQ]
  refine AW.ite ?_
  simp only [condQ, bR, Nat.reduceEqDiff, reduceIte, Int.reduceBNe, Int.reduceBEq]
  refine ⟨fun h => ?_, fun h => ?_⟩
  · cases h
  refine AW.skip ?_; simp only [thenQ, blockQ, reduceIte, Nat.reduceEqDiff]
  have hlen : m.given.length ≤ 1000 := by have := okM_len hw; omega
  have hpm : ∀ g ∈ possG m r, okMark g.mark = true := fun g hg => okM_mark hw g (possG_mem hg)
  refine AW.seq (AW.seq ?_)
  refine AW.reg cd17_4 fun K hK => ?_
  simp only [g17_4, bR, Nat.reduceEqDiff, reduceIte, Int.reduceBNe, Int.reduceBEq]
  try simp only [typR, useR, okR, e_fin, bR, Nat.reduceEqDiff, reduceIte, Int.reduceBNe, Int.reduceBEq]
  refine .flat _ (F71 places) rfl ?_
  generalize hp : okPlaces places = bp
  cases bp
  · try simp only [typR, useR, okR, e_fin, bR, Nat.reduceEqDiff, reduceIte, Int.reduceBNe, Int.reduceBEq]
    refine .done (hK _ ?_); clear hK K; simp only [thenQ, blockQ]
    refine AW.ite ?_
    simp only [condQ, bR, Nat.reduceEqDiff, reduceIte, Int.reduceBNe, Int.reduceBEq]
    refine ⟨fun h => ?_, fun h => ?_⟩
    · refine AW.seq (AW.reg cd17_5 fun K hK => ?_)
      simp only [g17_5, bR, Nat.reduceEqDiff, reduceIte, Int.reduceBNe, Int.reduceBEq]
      refine .done (hK _ ?_); clear hK K; simp only [thenQ, blockQ]
      refine AW.ret ?_
      simp only [blockQ, thenQ, bR, Nat.reduceEqDiff, reduceIte, Int.reduceBNe, Int.reduceBEq]
      simp [checkLook, hw, hr, hp]
    · cases h
  simp only [typR, useR, okR, e_fin, Bool.not_true, bR, Nat.reduceEqDiff, reduceIte, Int.reduceBNe, Int.reduceBEq]
  refine .lead _ (F65c m r (okM_mark hw) hlen) ?_
  try simp only [typR, useR, okR, e_fin, bR, Nat.reduceEqDiff, reduceIte, Int.reduceBNe, Int.reduceBEq]
  refine .flat _ (F67 m.wear (possG m r) places hpm (okPlaces_in hp)) rfl ?_
  generalize hs : settled m.wear (possG m r) places = bs
  cases bs
  · try simp only [typR, useR, okR, e_fin, bR, Nat.reduceEqDiff, reduceIte, Int.reduceBNe, Int.reduceBEq]
    refine .done (hK _ ?_); clear hK K; simp only [thenQ, blockQ]
    refine AW.ite ?_
    simp only [condQ, bR, Nat.reduceEqDiff, reduceIte, Int.reduceBNe, Int.reduceBEq]
    refine ⟨fun h => ?_, fun h => ?_⟩
    · refine AW.seq (AW.reg cd17_5 fun K hK => ?_)
      simp only [g17_5, bR, Nat.reduceEqDiff, reduceIte, Int.reduceBNe, Int.reduceBEq]
      refine .done (hK _ ?_); clear hK K; simp only [thenQ, blockQ]
      refine AW.ret ?_
      simp only [blockQ, thenQ, bR, Nat.reduceEqDiff, reduceIte, Int.reduceBNe, Int.reduceBEq]
      simp [checkLook, hw, hr, hp, hs]
    · cases h
  · try simp only [typR, useR, okR, e_fin, bR, Nat.reduceEqDiff, reduceIte, Int.reduceBNe, Int.reduceBEq]
    refine .done (hK _ ?_); clear hK K; simp only [thenQ, blockQ]
    refine AW.ite ?_
    simp only [condQ, bR, Nat.reduceEqDiff, reduceIte, Int.reduceBNe, Int.reduceBEq]
    refine ⟨fun h => ?_, fun h => ?_⟩
    · cases h
    refine AW.skip ?_; simp only [thenQ, blockQ, reduceIte, Nat.reduceEqDiff]
    refine AW.seq (AW.reg cd17_6 fun K hK => ?_)
    simp only [g17_6, bR, Nat.reduceEqDiff, reduceIte, Int.reduceBNe, Int.reduceBEq]
    refine .done (hK _ ?_); clear hK K; simp only [thenQ, blockQ]
    refine AW.ret ?_
    simp only [blockQ, thenQ, bR, Nat.reduceEqDiff, reduceIte, Int.reduceBNe, Int.reduceBEq]
    simp [checkLook, hw, hr, hp, hs]
theorem F18 (m : Marks) (r : Arr 6 Int) (places : List Int) : Ctr Try.prog 18 [enc m, enc r, enc places] (enc (checkLook m r places)) := by
  refine Ctr.mk' Try.func18 ca18 cc18 cr18 (Nat.le_of_ble_eq_true rfl) (fun hwf W0 D0 E1 => ?_)
  simp only [c18, r18, idx, Nat.zero_add, Nat.reduceAdd]
  refine AW.seq (AW.reg cd18_0 fun K hK => ?_)
  simp only [g18_0, bR, Nat.reduceEqDiff, reduceIte, Int.reduceBNe, Int.reduceBEq]
  simp only [e_isVal, bR, Nat.reduceEqDiff, reduceIte, Int.reduceBNe, Int.reduceBEq]
  refine .done (hK _ ?_); clear hK K; simp only [thenQ, blockQ]
  refine AW.seq (AW.reg cd18_1 fun K hK => ?_)
  simp only [g18_1, bR, Nat.reduceEqDiff, reduceIte, Int.reduceBNe, Int.reduceBEq]
  try simp only [typR, useR, okR, e_fin, bR, Nat.reduceEqDiff, reduceIte, Int.reduceBNe, Int.reduceBEq]
  refine .lead _ (F28 m r) ?_
  try simp only [typR, useR, okR, e_fin, bR, Nat.reduceEqDiff, reduceIte, Int.reduceBNe, Int.reduceBEq]
  refine .done (hK _ ?_); clear hK K; simp only [thenQ, blockQ]
  generalize hw : okM m = bw
  generalize hr : okReading r = br
  refine AW.seq (AW.seq ?_)
  cases bw
  · have ho : (ownersOf m r).2 = 13 := by simp [ownersOf, hw]
    refine AW.reg cd18_2 fun K hK => ?_
    simp only [g18_2, bR, Nat.reduceEqDiff, reduceIte, Int.reduceBNe, Int.reduceBEq]
    refine .done (hK _ ?_); clear hK K; simp only [thenQ, blockQ]
    simp only [ho]
    refine AW.ite ?_
    simp only [condQ, bR, Nat.reduceEqDiff, reduceIte, Int.reduceBNe, Int.reduceBEq]
    refine ⟨fun h => ?_, fun h => ?_⟩
    · refine AW.seq (AW.reg cd18_3 fun K hK => ?_)
      simp only [g18_3, bR, Nat.reduceEqDiff, reduceIte, Int.reduceBNe, Int.reduceBEq]
      refine .done (hK _ ?_); clear hK K; simp only [thenQ, blockQ]
      refine AW.ret ?_
      simp only [blockQ, thenQ, bR, Nat.reduceEqDiff, reduceIte, Int.reduceBNe, Int.reduceBEq]
      simp [checkLook, hw, e_int]
    · cases h
  cases br
  · have ho : (ownersOf m r).2 = 12 := by simp [ownersOf, hw, hr]
    refine AW.reg cd18_2 fun K hK => ?_
    simp only [g18_2, bR, Nat.reduceEqDiff, reduceIte, Int.reduceBNe, Int.reduceBEq]
    refine .done (hK _ ?_); clear hK K; simp only [thenQ, blockQ]
    simp only [ho]
    refine AW.ite ?_
    simp only [condQ, bR, Nat.reduceEqDiff, reduceIte, Int.reduceBNe, Int.reduceBEq]
    refine ⟨fun h => ?_, fun h => ?_⟩
    · refine AW.seq (AW.reg cd18_3 fun K hK => ?_)
      simp only [g18_3, bR, Nat.reduceEqDiff, reduceIte, Int.reduceBNe, Int.reduceBEq]
      refine .done (hK _ ?_); clear hK K; simp only [thenQ, blockQ]
      refine AW.ret ?_
      simp only [blockQ, thenQ, bR, Nat.reduceEqDiff, reduceIte, Int.reduceBNe, Int.reduceBEq]
      simp [checkLook, hw, hr, e_int]
    · cases h
  have ho : (ownersOf m r).2 = 0 := by simp [ownersOf, hw, hr]
  refine AW.reg cd18_2 fun K hK => ?_
  simp only [g18_2, bR, Nat.reduceEqDiff, reduceIte, Int.reduceBNe, Int.reduceBEq]
  refine .done (hK _ ?_); clear hK K; simp only [thenQ, blockQ]
  simp only [ho]
  refine AW.ite ?_
  simp only [condQ, bR, Nat.reduceEqDiff, reduceIte, Int.reduceBNe, Int.reduceBEq]
  refine ⟨fun h => ?_, fun h => ?_⟩
  · cases h
  refine AW.skip ?_; simp only [thenQ, blockQ, reduceIte, Nat.reduceEqDiff]
  refine AW.seq (AW.seq ?_)
  refine AW.reg cd18_4 fun K hK => ?_
  simp only [g18_4, bR, Nat.reduceEqDiff, reduceIte, Int.reduceBNe, Int.reduceBEq]
  try simp only [typR, useR, okR, e_fin, bR, Nat.reduceEqDiff, reduceIte, Int.reduceBNe, Int.reduceBEq]
  refine .flat _ (F79 places) rfl ?_
  generalize hp : okPlaces places = bp
  cases bp
  · try simp only [typR, useR, okR, e_fin, bR, Nat.reduceEqDiff, reduceIte, Int.reduceBNe, Int.reduceBEq]
    refine .done (hK _ ?_); clear hK K; simp only [thenQ, blockQ]
    refine AW.ite ?_
    simp only [condQ, bR, Nat.reduceEqDiff, reduceIte, Int.reduceBNe, Int.reduceBEq]
    refine ⟨fun h => ?_, fun h => ?_⟩
    · refine AW.seq (AW.reg cd18_5 fun K hK => ?_)
      simp only [g18_5, bR, Nat.reduceEqDiff, reduceIte, Int.reduceBNe, Int.reduceBEq]
      refine .done (hK _ ?_); clear hK K; simp only [thenQ, blockQ]
      refine AW.ret ?_
      simp only [blockQ, thenQ, bR, Nat.reduceEqDiff, reduceIte, Int.reduceBNe, Int.reduceBEq]
      simp [checkLook, hw, hr, hp]
    · cases h
  simp only [typR, useR, okR, e_fin, Bool.not_true, bR, Nat.reduceEqDiff, reduceIte, Int.reduceBNe, Int.reduceBEq]
  refine .flat _ (F69 m r places hw (okPlaces_in hp)) rfl ?_
  generalize hs : settled m.wear (possG m r) places = bs
  cases bs
  · try simp only [typR, useR, okR, e_fin, bR, Nat.reduceEqDiff, reduceIte, Int.reduceBNe, Int.reduceBEq]
    refine .done (hK _ ?_); clear hK K; simp only [thenQ, blockQ]
    refine AW.ite ?_
    simp only [condQ, bR, Nat.reduceEqDiff, reduceIte, Int.reduceBNe, Int.reduceBEq]
    refine ⟨fun h => ?_, fun h => ?_⟩
    · refine AW.seq (AW.reg cd18_5 fun K hK => ?_)
      simp only [g18_5, bR, Nat.reduceEqDiff, reduceIte, Int.reduceBNe, Int.reduceBEq]
      refine .done (hK _ ?_); clear hK K; simp only [thenQ, blockQ]
      refine AW.ret ?_
      simp only [blockQ, thenQ, bR, Nat.reduceEqDiff, reduceIte, Int.reduceBNe, Int.reduceBEq]
      simp [checkLook, hw, hr, hp, hs]
    · cases h
  · try simp only [typR, useR, okR, e_fin, bR, Nat.reduceEqDiff, reduceIte, Int.reduceBNe, Int.reduceBEq]
    refine .done (hK _ ?_); clear hK K; simp only [thenQ, blockQ]
    refine AW.ite ?_
    simp only [condQ, bR, Nat.reduceEqDiff, reduceIte, Int.reduceBNe, Int.reduceBEq]
    refine ⟨fun h => ?_, fun h => ?_⟩
    · cases h
    refine AW.skip ?_; simp only [thenQ, blockQ, reduceIte, Nat.reduceEqDiff]
    refine AW.seq (AW.reg cd18_6 fun K hK => ?_)
    simp only [g18_6, bR, Nat.reduceEqDiff, reduceIte, Int.reduceBNe, Int.reduceBEq]
    refine .done (hK _ ?_); clear hK K; simp only [thenQ, blockQ]
    refine AW.ret ?_
    simp only [blockQ, thenQ, bR, Nat.reduceEqDiff, reduceIte, Int.reduceBNe, Int.reduceBEq]
    simp [checkLook, hw, hr, hp, hs]
end Go.Proofs.Ytkjkbpgdpnapfaa

/-
  FUNCTIONS OF THE REFERENCE BY CONTRACT: Look.
-/
namespace Go.Proofs.Ytkjkbpgdpnapfaa
open Go Go.Abs
open Go.Abs.Enc (enc)
theorem bit_has : ∀ s : Fin 64, ∀ i : Fin 6, hasB (s.1 : Int) i.1 = bit (s.1 : Int) i.1 := by decide +kernel
theorem bits_members {s : Nat} (h : s < 64) : ∀ n, n ≤ 6 → bitsOf s n = members (s : Int) n
  | 0, _ => rfl
  | n + 1, hn => by
    have := bit_has ⟨s, h⟩ ⟨n, by omega⟩
    simp only at this
    simp only [bitsOf, members, bits_members h n (by omega), this]
theorem ahead_cmp : ∀ a b : List Int, ahead a b = decide (cmpL a b < 0)
  | [], [] => by simp [ahead, cmpL]
  | [], _ :: _ => by simp [ahead, cmpL]
  | _ :: _, [] => by simp [ahead, cmpL]
  | a :: x, b :: y => by
    simp only [ahead, cmpL, ahead_cmp x y, cmpI]
    by_cases e : a = b
    · subst e; simp
    · rw [if_neg e]
      by_cases h : a < b
      · simp [h]
      · have : b < a := by omega
        simp [h, this]
theorem F13 (m : Marks) (r : Arr 6 Int) : Ctr Try.prog 13 [enc m, enc r] (.tuple [enc (lookOf m r).1, enc (lookOf m r).2]) := by
  refine Ctr.mk' Try.func13 ca13 cc13 cr13 (Nat.le_of_ble_eq_true rfl) (fun hwf W0 D0 E1 => ?_)
  simp only [c13, r13, idx, Nat.zero_add, Nat.reduceAdd]
  refine AW.seq (AW.reg cd13_0 fun K hK => ?_)
  simp only [g13_0, bR, Nat.reduceEqDiff, reduceIte, Int.reduceBNe, Int.reduceBEq]
  simp only [e_isVal, bR, Nat.reduceEqDiff, reduceIte, Int.reduceBNe, Int.reduceBEq]
  refine .done (hK _ ?_); clear hK K; simp only [thenQ, blockQ]
  refine AW.seq (AW.reg cd13_1 fun K hK => ?_)
  simp only [g13_1, bR, Nat.reduceEqDiff, reduceIte, Int.reduceBNe, Int.reduceBEq]
  try simp only [typR, useR, okR, e_fin, bR, Nat.reduceEqDiff, reduceIte, Int.reduceBNe, Int.reduceBEq]
  refine .lead _ (F28 m r) ?_
  try simp only [typR, useR, okR, e_fin, bR, Nat.reduceEqDiff, reduceIte, Int.reduceBNe, Int.reduceBEq]
  refine .done (hK _ ?_); clear hK K; simp only [thenQ, blockQ]
  generalize hw : okM m = bw
  generalize hr : okReading r = br
  refine AW.seq (AW.seq ?_)
  cases bw
  · have ho : (ownersOf m r).2 = 13 := by simp [ownersOf, hw]
    refine AW.reg cd13_2 fun K hK => ?_
    simp only [g13_2, bR, Nat.reduceEqDiff, reduceIte, Int.reduceBNe, Int.reduceBEq]
    refine .done (hK _ ?_); clear hK K; simp only [thenQ, blockQ]
    simp only [ho]
    refine AW.ite ?_
    simp only [condQ, bR, Nat.reduceEqDiff, reduceIte, Int.reduceBNe, Int.reduceBEq]
    refine ⟨fun h => ?_, fun h => ?_⟩
    · refine AW.seq (AW.reg cd13_3 fun K hK => ?_)
      simp only [g13_3, bR, Nat.reduceEqDiff, reduceIte, Int.reduceBNe, Int.reduceBEq]
      refine .done (hK _ ?_); clear hK K; simp only [thenQ, blockQ]
      refine AW.ret ?_
      simp only [blockQ, thenQ, bR, Nat.reduceEqDiff, reduceIte, Int.reduceBNe, Int.reduceBEq]
      simp [lookOf, hw, nilInt, e_int]
    · cases h
  cases br
  · have ho : (ownersOf m r).2 = 12 := by simp [ownersOf, hw, hr]
    refine AW.reg cd13_2 fun K hK => ?_
    simp only [g13_2, bR, Nat.reduceEqDiff, reduceIte, Int.reduceBNe, Int.reduceBEq]
    refine .done (hK _ ?_); clear hK K; simp only [thenQ, blockQ]
    simp only [ho]
    refine AW.ite ?_
    simp only [condQ, bR, Nat.reduceEqDiff, reduceIte, Int.reduceBNe, Int.reduceBEq]
    refine ⟨fun h => ?_, fun h => ?_⟩
    · refine AW.seq (AW.reg cd13_3 fun K hK => ?_)
      simp only [g13_3, bR, Nat.reduceEqDiff, reduceIte, Int.reduceBNe, Int.reduceBEq]
      refine .done (hK _ ?_); clear hK K; simp only [thenQ, blockQ]
      refine AW.ret ?_
      simp only [blockQ, thenQ, bR, Nat.reduceEqDiff, reduceIte, Int.reduceBNe, Int.reduceBEq]
      simp [lookOf, hw, hr, nilInt, e_int]
    · cases h
  have ho : (ownersOf m r).2 = 0 := by simp [ownersOf, hw, hr]
  refine AW.reg cd13_2 fun K hK => ?_
  simp only [g13_2, bR, Nat.reduceEqDiff, reduceIte, Int.reduceBNe, Int.reduceBEq]
  refine .done (hK _ ?_); clear hK K; simp only [thenQ, blockQ]
  simp only [ho]
  refine AW.ite ?_
  simp only [condQ, bR, Nat.reduceEqDiff, reduceIte, Int.reduceBNe, Int.reduceBEq]
  refine ⟨fun h => ?_, fun h => ?_⟩
  · cases h
  refine AW.skip ?_; simp only [thenQ, blockQ, reduceIte, Nat.reduceEqDiff]
  refine AW.seq (AW.reg cd13_4 fun K hK => ?_)
  simp only [g13_4, bR, Nat.reduceEqDiff, reduceIte, Int.reduceBNe, Int.reduceBEq]
  refine .done (hK _ ?_); clear hK K; simp only [thenQ, blockQ]
  refine AW.seq (AW.reg cd13_5 fun K hK => ?_)
  simp only [g13_5, bR, Nat.reduceEqDiff, reduceIte, Int.reduceBNe, Int.reduceBEq]
  refine .done (hK _ ?_); clear hK K; simp only [thenQ, blockQ]
  refine AW.seq (AW.seq ?_)
  refine AW.reg cd13_6 fun K hK => ?_
  simp only [g13_6, bR, Nat.reduceEqDiff, reduceIte, Int.reduceBNe, Int.reduceBEq]
  refine .done (hK _ ?_); clear hK K; simp only [thenQ, blockQ]
  obtain ⟨poss, hposs⟩ : ∃ poss, poss = possG m r := ⟨_, rfl⟩
  refine AW.block (AW.loop (fun s : Nat => mkA [(2, .ptr 2 []), (3, .ptr 3 []), (8, enc (lookUp m.wear poss s).1), (9, .bool (lookUp m.wear poss s).2), (10, .int .i64 s)] [(2, .box (enc m)), (3, .box (enc r))]) (fun s => s ≤ 64) (fun s => 64 - s) 0 (by omega) ?_ (fun s hs => ?_))
  · simp only [lookUp]
    refine Sub.freeL (y := .slice 1 []) [] 8 rfl rfl ?_ ?_ ?_ ?_ ?_
    · simp [dropO, onlyO, AO.only, e_only]
    · simp [subT, fgt, look_cons, AV.only, e_only]; rfl
    · simp [subO, dropO, lookO_cons]
    · simp [onlyT, isIn, lookO_cons, AV.only, e_only]
    · simp [onlyO, AO.only, e_only]
  obtain ⟨best, hbest⟩ : ∃ best, (lookUp m.wear poss s).1 = best := ⟨_, rfl⟩
  obtain ⟨found, hfound⟩ : ∃ found, (lookUp m.wear poss s).2 = found := ⟨_, rfl⟩
  have hlu : lookUp m.wear poss s = (best, found) := by rw [← hbest, ← hfound]
  have hbl : best.length ≤ 6 := by rw [← hbest]; exact lookUp_le _ _ _
  rw [hbest, hfound]
  refine AW.seq (AW.seq ?_)
  refine AW.reg cd13_7 fun K hK => ?_
  simp only [g13_7, bR, Nat.reduceEqDiff, reduceIte, Int.reduceBNe, Int.reduceBEq]
  refine .done (hK _ ?_); clear hK K; simp only [thenQ, blockQ]
  refine AW.ite ?_
  simp only [condQ, bR, Nat.reduceEqDiff, reduceIte, Int.reduceBNe, Int.reduceBEq]
  refine ⟨fun h => ?_, fun h => ?_⟩
  case refine_2.refine_2 =>
    have hge : s = 64 := by simp at h; omega
    subst hge
    refine AW.exit ?_; simp only [thenQ, blockQ, reduceIte, Nat.reduceEqDiff]
    refine AW.seq (AW.reg cd13_14 fun K hK => ?_)
    simp only [g13_14, bR, Nat.reduceEqDiff, reduceIte, Int.reduceBNe, Int.reduceBEq]
    refine .done (hK _ ?_); clear hK K; simp only [thenQ, blockQ]
    refine AW.ret ?_
    simp only [blockQ, thenQ, bR, Nat.reduceEqDiff, reduceIte, Int.reduceBNe, Int.reduceBEq]
    simp only [e_fin, bR, Nat.reduceEqDiff, reduceIte, Int.reduceBNe, Int.reduceBEq]
    simp [lookOf, hw, hr, hlu, ← hposs, e_int]
  have hlt : s < 64 := by simp at h; omega
  have hset := bitsOf_in s 6 (Nat.le_refl _)
  have hsl := bitsOf_le s 6
  have hstep : lookUp m.wear poss (s + 1) = lookStep m.wear poss (best, found) s := by rw [lookUp, hlu]
  have hmem : members (s : Int) 6 = bitsOf s 6 := (bits_members hlt 6 (Nat.le_refl _)).symm
  obtain ⟨set, hsetd⟩ : ∃ set, bitsOf s 6 = set := ⟨_, rfl⟩
  simp only [lookStep, hsetd] at hstep
  rw [hsetd] at hset hsl hmem
  refine AW.skip ?_; simp only [thenQ, blockQ, reduceIte, Nat.reduceEqDiff]
  refine AW.seq (AW.block ?_)
  refine AW.seq (AW.reg cd13_8 fun K hK => ?_)
  simp only [g13_8, bR, Nat.reduceEqDiff, reduceIte, Int.reduceBNe, Int.reduceBEq]
  try simp only [typR, useR, okR, e_fin, bR, Nat.reduceEqDiff, reduceIte, Int.reduceBNe, Int.reduceBEq]
  refine .lead _ (F68 (s : Int)) ?_
  rw [hmem]
  try simp only [typR, useR, okR, e_fin, bR, Nat.reduceEqDiff, reduceIte, Int.reduceBNe, Int.reduceBEq]
  refine .done (hK _ ?_); clear hK K; simp only [thenQ, blockQ]
  refine AW.seq (AW.seq ?_)
  refine AW.reg cd13_9 fun K hK => ?_
  simp only [g13_9, bR, Nat.reduceEqDiff, reduceIte, Int.reduceBNe, Int.reduceBEq]
  try simp only [typR, useR, okR, e_fin, bR, Nat.reduceEqDiff, reduceIte, Int.reduceBNe, Int.reduceBEq]
  refine .flat _ (F69 m r set hw hset) rfl ?_
  rw [← hposs]
  try simp only [typR, useR, okR, e_fin, bR, Nat.reduceEqDiff, reduceIte, Int.reduceBNe, Int.reduceBEq]
  refine .done (hK _ ?_); clear hK K; simp only [thenQ, blockQ]
  generalize hst : settled m.wear poss set = st at hstep
  cases st
  · refine AW.ite ?_
    simp only [condQ, bR, Nat.reduceEqDiff, reduceIte, Int.reduceBNe, Int.reduceBEq]
    refine ⟨fun h => ?_, fun h => ?_⟩
    · refine AW.exit ?_; simp only [thenQ, blockQ, reduceIte, Nat.reduceEqDiff]
      refine AW.reg cd13_13 fun K hK => ?_
      simp only [g13_13, bR, Nat.reduceEqDiff, reduceIte, Int.reduceBNe, Int.reduceBEq]
      refine .done (hK _ ?_); clear hK K; simp only [thenQ, blockQ]
      refine ⟨s + 1, by omega, by omega, ?_⟩
      rw [Bool.and_false] at hstep
      rw [wrap_id _ (by omega) (by omega), hstep]
      refine Sub.of_lists ?_ ?_ ?_ ?_ <;> simp [subT, subO, onlyT, onlyO, isIn, look_cons, lookO_cons, lookO_nil, AV.only, AV.onlys, AO.only, onlys_map, onlys_append, e_only, e_int, e_bool]
    · cases h
  refine AW.ite ?_
  simp only [condQ, bR, Nat.reduceEqDiff, reduceIte, Int.reduceBNe, Int.reduceBEq]
  refine ⟨fun h => ?_, fun h => ?_⟩
  · cases h
  refine AW.skip ?_; simp only [thenQ, blockQ, reduceIte, Nat.reduceEqDiff]
  rw [Bool.and_true] at hstep
  have hah := ahead_cmp set best
  refine AW.seq ?_
  refine AW.via (mkA [(52, .bool (better found best set)), (2, .ptr 2 []), (3, .ptr 3 []), (8, enc best), (9, .bool found), (11, enc set), (10, .int .i64 s)] [(2, .box (enc m)), (3, .box (enc r))]) ?_ fun B hB => ?_
  · refine AW.reg cd13_10 fun K hK => ?_
    simp only [g13_10, bR, Nat.reduceEqDiff, reduceIte, Int.reduceBNe, Int.reduceBEq]
    cases found
    · try simp only [typR, useR, okR, e_fin, bR, Nat.reduceEqDiff, reduceIte, Int.reduceBNe, Int.reduceBEq]
      refine .done (hK _ ?_); clear hK K; simp only [thenQ, blockQ]
      simp only [better, Bool.not_false, Bool.true_or]
      refine Sub.of_lists ?_ ?_ ?_ ?_ <;> simp [subT, subO, onlyT, onlyO, isIn, look_cons, lookO_cons, lookO_nil, AV.only, AV.onlys, AO.only, onlys_map, onlys_append, e_only, e_int, e_bool]
    try simp only [typR, useR, okR, e_fin, bR, Nat.reduceEqDiff, reduceIte, Int.reduceBNe, Int.reduceBEq]
    generalize hb1 : decide ((set.length : Int) < best.length) = b1
    cases b1
    · try simp only [typR, useR, okR, e_fin, bR, Nat.reduceEqDiff, reduceIte, Int.reduceBNe, Int.reduceBEq]
      generalize hb2 : ((set.length : Int) == best.length) = b2
      cases b2
      · try simp only [typR, useR, okR, e_fin, bR, Nat.reduceEqDiff, reduceIte, Int.reduceBNe, Int.reduceBEq]
        refine .done (hK _ ?_); clear hK K; simp only [thenQ, blockQ]
        simp only [better, hb1, hb2, Bool.not_true, Bool.false_or, Bool.or_false, Bool.false_and]
        refine Sub.of_lists ?_ ?_ ?_ ?_ <;> simp [subT, subO, onlyT, onlyO, isIn, look_cons, lookO_cons, lookO_nil, AV.only, AV.onlys, AO.only, onlys_map, onlys_append, e_only, e_int, e_bool]
      try simp only [typR, useR, okR, e_fin, bR, Nat.reduceEqDiff, reduceIte, Int.reduceBNe, Int.reduceBEq]
      refine .flat _ (F70 set best) rfl ?_
      try simp only [typR, useR, okR, e_fin, bR, Nat.reduceEqDiff, reduceIte, Int.reduceBNe, Int.reduceBEq]
      refine .done (hK _ ?_); clear hK K; simp only [thenQ, blockQ]
      simp only [better, hb1, hb2, Bool.not_true, Bool.false_or, Bool.or_false, Bool.true_and, hah]
      refine Sub.of_lists ?_ ?_ ?_ ?_ <;> simp [subT, subO, onlyT, onlyO, isIn, look_cons, lookO_cons, lookO_nil, AV.only, AV.onlys, AO.only, onlys_map, onlys_append, e_only, e_int, e_bool]
    · try simp only [typR, useR, okR, e_fin, bR, Nat.reduceEqDiff, reduceIte, Int.reduceBNe, Int.reduceBEq]
      refine .done (hK _ ?_); clear hK K; simp only [thenQ, blockQ]
      simp only [better, hb1, Bool.not_true, Bool.false_or, Bool.true_or, Bool.or_true]
      refine Sub.of_lists ?_ ?_ ?_ ?_ <;> simp [subT, subO, onlyT, onlyO, isIn, look_cons, lookO_cons, lookO_nil, AV.only, AV.onlys, AO.only, onlys_map, onlys_append, e_only, e_int, e_bool]
  simp only [thenQ, blockQ]
  refine AW.sub hB ?_
  generalize better found best set = bt at hstep
  cases bt
  · refine AW.ite ?_
    simp only [condQ, bR, Nat.reduceEqDiff, reduceIte, Int.reduceBNe, Int.reduceBEq]
    refine ⟨fun h => ?_, fun h => ?_⟩
    · cases h
    refine AW.skip ?_; simp only [thenQ, blockQ, reduceIte, Nat.reduceEqDiff]
    refine AW.reg cd13_13 fun K hK => ?_
    simp only [g13_13, bR, Nat.reduceEqDiff, reduceIte, Int.reduceBNe, Int.reduceBEq]
    refine .done (hK _ ?_); clear hK K; simp only [thenQ, blockQ]
    refine ⟨s + 1, by omega, by omega, ?_⟩
    rw [wrap_id _ (by omega) (by omega), hstep]
    refine Sub.of_lists ?_ ?_ ?_ ?_ <;> simp [subT, subO, onlyT, onlyO, isIn, look_cons, lookO_cons, lookO_nil, AV.only, AV.onlys, AO.only, onlys_map, onlys_append, e_only, e_int, e_bool]
  · refine AW.ite ?_
    simp only [condQ, bR, Nat.reduceEqDiff, reduceIte, Int.reduceBNe, Int.reduceBEq]
    refine ⟨fun h => ?_, fun h => ?_⟩
    · refine AW.seq (AW.reg cd13_11 fun K hK => ?_)
      simp only [g13_11, bR, Nat.reduceEqDiff, reduceIte, Int.reduceBNe, Int.reduceBEq]
      refine .done (hK _ ?_); clear hK K; simp only [thenQ, blockQ]
      refine AW.reg cd13_12 fun K hK => ?_
      simp only [g13_12, bR, Nat.reduceEqDiff, reduceIte, Int.reduceBNe, Int.reduceBEq]
      refine .done (hK _ ?_); clear hK K; simp only [thenQ, blockQ]
      refine AW.reg cd13_13 fun K hK => ?_
      simp only [g13_13, bR, Nat.reduceEqDiff, reduceIte, Int.reduceBNe, Int.reduceBEq]
      refine .done (hK _ ?_); clear hK K; simp only [thenQ, blockQ]
      refine ⟨s + 1, by omega, by omega, ?_⟩
      rw [wrap_id _ (by omega) (by omega), hstep]
      refine Sub.of_lists ?_ ?_ ?_ ?_ <;> simp [subT, subO, onlyT, onlyO, isIn, look_cons, lookO_cons, lookO_nil, AV.only, AV.onlys, AO.only, onlys_map, onlys_append, e_only, e_int, e_bool]
    · cases h
end Go.Proofs.Ytkjkbpgdpnapfaa

/-
  THE LAW MarkLooks BY CONTRACT.
-/
namespace Go.Proofs.Ytkjkbpgdpnapfaa
open Go Go.Abs
open Go.Abs.Enc (enc)
theorem F3 (m : Marks) (s : Sights) (c : List Int) (hc : c.length ≤ 4611686018427387904) : Ctr Try.prog 3 [enc m, enc s, enc c] (enc true) := by
  refine Ctr.mk' Try.func3 ca3 cc3 cr3 (Nat.le_of_ble_eq_true rfl) (fun hwf W0 D0 E1 => ?_)
  simp only [c3, r3, idx, Nat.zero_add, Nat.reduceAdd]
  refine AW.seq (AW.reg cd3_0 fun K hK => ?_)
  simp only [g3_0, bR, Nat.reduceEqDiff, reduceIte, Int.reduceBNe, Int.reduceBEq]
  simp only [e_isVal, bR, Nat.reduceEqDiff, reduceIte, Int.reduceBNe, Int.reduceBEq]
  refine .done (hK _ ?_); clear hK K; simp only [thenQ, blockQ]
  refine AW.seq (AW.reg cd3_1 fun K hK => ?_)
  simp only [g3_1, bR, Nat.reduceEqDiff, reduceIte, Int.reduceBNe, Int.reduceBEq]
  simp only [sightR, typR, useR, okR, e_fin, bR, Nat.reduceEqDiff, reduceIte, Int.reduceBNe, Int.reduceBEq]
  refine .lead _ (F12 m s.first) ?_
  try simp only [typR, useR, okR, e_fin, bR, Nat.reduceEqDiff, reduceIte, Int.reduceBNe, Int.reduceBEq]
  refine .done (hK _ ?_); clear hK K; simp only [thenQ, blockQ]
  refine AW.seq (AW.reg cd3_2 fun K hK => ?_)
  simp only [g3_2, bR, Nat.reduceEqDiff, reduceIte, Int.reduceBNe, Int.reduceBEq]
  simp only [sightR, typR, useR, okR, e_fin, bR, Nat.reduceEqDiff, reduceIte, Int.reduceBNe, Int.reduceBEq]
  refine .lead _ (F13 m s.first) ?_
  try simp only [typR, useR, okR, e_fin, bR, Nat.reduceEqDiff, reduceIte, Int.reduceBNe, Int.reduceBEq]
  refine .done (hK _ ?_); clear hK K; simp only [thenQ, blockQ]
  refine AW.seq (AW.reg cd3_3 fun K hK => ?_)
  simp only [g3_3, bR, Nat.reduceEqDiff, reduceIte, Int.reduceBNe, Int.reduceBEq]
  simp only [sightR, typR, useR, okR, e_fin, bR, Nat.reduceEqDiff, reduceIte, Int.reduceBNe, Int.reduceBEq]
  refine .lead _ (F14 m s.first s.again s.places) ?_
  try simp only [typR, useR, okR, e_fin, bR, Nat.reduceEqDiff, reduceIte, Int.reduceBNe, Int.reduceBEq]
  refine .done (hK _ ?_); clear hK K; simp only [thenQ, blockQ]
  refine AW.seq (AW.reg cd3_4 fun K hK => ?_)
  simp only [g3_4, bR, Nat.reduceEqDiff, reduceIte, Int.reduceBNe, Int.reduceBEq]
  simp only [sightR, typR, useR, okR, e_fin, bR, Nat.reduceEqDiff, reduceIte, Int.reduceBNe, Int.reduceBEq]
  refine .lead _ (F15 m s) ?_
  try simp only [typR, useR, okR, e_fin, bR, Nat.reduceEqDiff, reduceIte, Int.reduceBNe, Int.reduceBEq]
  refine .done (hK _ ?_); clear hK K; simp only [thenQ, blockQ]
  generalize lookOf m s.first = x
  generalize lookedOf m s.first s.again s.places = y
  obtain ⟨x1, x2⟩ := x
  obtain ⟨y1, y2⟩ := y
  refine AW.seq (AW.seq ?_)
  refine AW.reg cd3_5 fun K hK => ?_
  simp only [g3_5, bR, Nat.reduceEqDiff, reduceIte, Int.reduceBNe, Int.reduceBEq]
  simp only [sightR, typR, useR, okR, e_fin, bR, Nat.reduceEqDiff, reduceIte, Int.reduceBNe, Int.reduceBEq]
  refine .flat _ (F16 x1 x1) rfl ?_
  simp only [sightR, typR, useR, okR, e_fin, decide_true, Bool.not_true, bne_self_eq_false, bR, Nat.reduceEqDiff, reduceIte, Int.reduceBNe, Int.reduceBEq]
  refine .flat _ (F16 y1 y1) rfl ?_
  simp only [sightR, typR, useR, okR, e_fin, decide_true, Bool.not_true, bne_self_eq_false, bR, Nat.reduceEqDiff, reduceIte, Int.reduceBNe, Int.reduceBEq]
  refine .flat _ (F17 m s.first s.places) rfl ?_
  simp only [sightR, typR, useR, okR, e_fin, decide_true, Bool.not_true, bne_self_eq_false, bR, Nat.reduceEqDiff, reduceIte, Int.reduceBNe, Int.reduceBEq]
  refine .flat _ (F18 m s.first s.places) rfl ?_
  simp only [sightR, typR, useR, okR, e_fin, decide_true, Bool.not_true, bne_self_eq_false, bR, Nat.reduceEqDiff, reduceIte, Int.reduceBNe, Int.reduceBEq]
  refine .done (hK _ ?_); clear hK K; simp only [thenQ, blockQ]
  refine AW.ite ?_
  simp only [condQ, bR, Nat.reduceEqDiff, reduceIte, Int.reduceBNe, Int.reduceBEq]
  refine ⟨fun h => ?_, fun h => ?_⟩
  · first | cases h | simp at h
  refine AW.skip ?_; simp only [thenQ, blockQ, reduceIte, Nat.reduceEqDiff]
  refine AW.seq (AW.seq ?_)
  refine AW.reg cd3_7 fun K hK => ?_
  simp only [g3_7, bR, Nat.reduceEqDiff, reduceIte, Int.reduceBNe, Int.reduceBEq]
  refine .done (hK _ ?_); clear hK K; simp only [thenQ, blockQ]
  refine AW.block (AW.loop (fun i : Nat => mkA [(2, enc c), (3, .ptr 3 []), (4, .ptr 4 []), (15, .int .i64 i)] [(3, .box (enc m)), (4, .box (enc s))]) (fun i => i ≤ 3) (fun i => 3 - i) 0 (by omega) ?_ (fun i hi => ?_))
  · refine Sub.of_lists ?_ ?_ ?_ ?_ <;> simp [subT, subO, onlyT, onlyO, isIn, look_cons, lookO_cons, lookO_nil, AV.only, AV.onlys, AO.only, onlys_map, onlys_append, e_only, e_int, e_bool]
  refine AW.seq (AW.seq ?_)
  refine AW.reg cd3_8 fun K hK => ?_
  simp only [g3_8, bR, Nat.reduceEqDiff, reduceIte, Int.reduceBNe, Int.reduceBEq]
  try simp only [typR, useR, okR, e_fin, bR, Nat.reduceEqDiff, reduceIte, Int.reduceBNe, Int.reduceBEq]
  generalize hz : decide ((i : Int) < m.given.length) = bz
  cases bz
  · try simp only [typR, useR, okR, e_fin, bR, Nat.reduceEqDiff, reduceIte, Int.reduceBNe, Int.reduceBEq]
    refine .done (hK _ ?_); clear hK K; simp only [thenQ, blockQ]
    refine AW.ite ?_
    simp only [condQ, bR, Nat.reduceEqDiff, reduceIte, Int.reduceBNe, Int.reduceBEq]
    refine ⟨fun h => ?_, fun h => ?_⟩
    · cases h
    refine AW.exit ?_; simp only [thenQ, blockQ, reduceIte, Nat.reduceEqDiff]
    refine AW.seq (AW.reg cd3_14 fun K hK => ?_)
    simp only [g3_14, bR, Nat.reduceEqDiff, reduceIte, Int.reduceBNe, Int.reduceBEq]
    refine .flat _ F21 rfl ?_
    try simp only [typR, useR, okR, e_fin, bR, Nat.reduceEqDiff, reduceIte, Int.reduceBNe, Int.reduceBEq]
    refine .done (hK _ ?_); clear hK K; simp only [thenQ, blockQ]
    refine AW.ret ?_
    simp only [blockQ, thenQ, bR, Nat.reduceEqDiff, reduceIte, Int.reduceBNe, Int.reduceBEq]
  try simp only [typR, useR, okR, e_fin, bR, Nat.reduceEqDiff, reduceIte, Int.reduceBNe, Int.reduceBEq]
  generalize hz2 : decide ((i : Int) < 3) = bz
  cases bz
  · try simp only [typR, useR, okR, e_fin, bR, Nat.reduceEqDiff, reduceIte, Int.reduceBNe, Int.reduceBEq]
    refine .done (hK _ ?_); clear hK K; simp only [thenQ, blockQ]
    refine AW.ite ?_
    simp only [condQ, bR, Nat.reduceEqDiff, reduceIte, Int.reduceBNe, Int.reduceBEq]
    refine ⟨fun h => ?_, fun h => ?_⟩
    · cases h
    refine AW.exit ?_; simp only [thenQ, blockQ, reduceIte, Nat.reduceEqDiff]
    refine AW.seq (AW.reg cd3_14 fun K hK => ?_)
    simp only [g3_14, bR, Nat.reduceEqDiff, reduceIte, Int.reduceBNe, Int.reduceBEq]
    refine .flat _ F21 rfl ?_
    try simp only [typR, useR, okR, e_fin, bR, Nat.reduceEqDiff, reduceIte, Int.reduceBNe, Int.reduceBEq]
    refine .done (hK _ ?_); clear hK K; simp only [thenQ, blockQ]
    refine AW.ret ?_
    simp only [blockQ, thenQ, bR, Nat.reduceEqDiff, reduceIte, Int.reduceBNe, Int.reduceBEq]
  have hlt : i < m.given.length := by simpa using hz
  have hi3 : i < 3 := by simp at hz2; omega
  try simp only [typR, useR, okR, e_fin, bR, Nat.reduceEqDiff, reduceIte, Int.reduceBNe, Int.reduceBEq]
  refine .done (hK _ ?_); clear hK K; simp only [thenQ, blockQ]
  refine AW.ite ?_
  simp only [condQ, bR, Nat.reduceEqDiff, reduceIte, Int.reduceBNe, Int.reduceBEq]
  refine ⟨fun h => ?_, fun h => ?_⟩
  case refine_2.true.true.refine_2 => cases h
  refine AW.skip ?_; simp only [thenQ, blockQ, reduceIte, Nat.reduceEqDiff]
  refine AW.seq (AW.block ?_)
  refine AW.seq (AW.reg cd3_9 fun K hK => ?_)
  simp only [g3_9, bR, Nat.reduceEqDiff, reduceIte, Int.reduceBNe, Int.reduceBEq]
  simp only [isE_gv hlt, typR, useR, okR, e_fin, bR, Nat.reduceEqDiff, reduceIte, Int.reduceBNe, Int.reduceBEq]
  refine .lead _ (F19 m.wear (gv m i).mark c) ?_
  simp only [typR, e_a6, stR3_6, bR, Nat.reduceEqDiff, reduceIte, Int.reduceBNe, Int.reduceBEq]
  refine .done (hK _ ?_); clear hK K; simp only [thenQ, blockQ]
  refine AW.seq (AW.reg cd3_10 fun K hK => ?_)
  simp only [g3_10, bR, Nat.reduceEqDiff, reduceIte, Int.reduceBNe, Int.reduceBEq]
  simp only [isE_gv hlt, typR, useR, okR, e_fin, bR, Nat.reduceEqDiff, reduceIte, Int.reduceBNe, Int.reduceBEq]
  refine .lead _ (F20 m.wear (gv m i).mark c hc) ?_
  simp only [typR, e_a6, stR3_6, bR, Nat.reduceEqDiff, reduceIte, Int.reduceBNe, Int.reduceBEq]
  refine .done (hK _ ?_); clear hK K; simp only [thenQ, blockQ]
  generalize wornR m.wear (gv m i).mark c = x
  obtain ⟨x1, x2⟩ := x
  refine AW.seq ?_
  refine AW.reg cd3_11 fun K hK => ?_
  simp only [g3_11, bR, Nat.reduceEqDiff, reduceIte, Int.reduceBNe, Int.reduceBEq]
  simp only [typR, useR, okR, e_fin, eqE_arr, decide_true, Bool.not_true, bne_self_eq_false, bR, Nat.reduceEqDiff, reduceIte, Int.reduceBNe, Int.reduceBEq]
  refine .done (hK _ ?_); clear hK K; simp only [thenQ, blockQ]
  refine AW.ite ?_
  simp only [condQ, bR, Nat.reduceEqDiff, reduceIte, Int.reduceBNe, Int.reduceBEq]
  refine ⟨fun h => ?_, fun h => ?_⟩
  · first | cases h | simp at h
  refine AW.skip ?_; simp only [thenQ, blockQ, reduceIte, Nat.reduceEqDiff]
  refine AW.reg cd3_13 fun K hK => ?_
  simp only [g3_13, bR, Nat.reduceEqDiff, reduceIte, Int.reduceBNe, Int.reduceBEq]
  refine .done (hK _ ?_); clear hK K; simp only [thenQ, blockQ]
  refine ⟨i + 1, by omega, by omega, ?_⟩
  rw [wrap_id _ (by omega) (by omega)]
  refine Sub.of_lists ?_ ?_ ?_ ?_ <;> simp [subT, subO, onlyT, onlyO, isIn, look_cons, lookO_cons, lookO_nil, AV.only, AV.onlys, AO.only, onlys_map, onlys_append, e_only, e_int, e_bool]
end Go.Proofs.Ytkjkbpgdpnapfaa

/-
  THE LAWS' ARGUMENTS, TAKEN AS DATA: the types of the statements.
-/
namespace Go.Proofs.Ytkjkbpgdpnapfaa
open Go Go.Abs Go.ChangeShapes Go.WideShapes Go.RowKit
open Go.Abs.Enc (enc)
theorem Try.own : ownKnob Try.prog.godebug = none := by kernel_rfl
theorem Try.laidOut : laidOutB Try.prog = true := by kernel_rfl
theorem oInt : Opens Try.prog 3 Int := opens_int (by kernel_rfl) (by kernel_rfl)
theorem oInts : Opens Try.prog 29 (List Int) := opens_list (by kernel_rfl) oInt (by kernel_rfl)
theorem oWear : Opens Try.prog 23 (Arr 5 Int) := opens_arr (isAr_spec (by kernel_rfl)) oInt (by kernel_rfl) (by decide)
theorem oReading : Opens Try.prog 28 (Arr 6 Int) := opens_arr (isAr_spec (by kernel_rfl)) oInt (by kernel_rfl) (by decide)
theorem oMark : Opens Try.prog 41 (Arr 6 Int) := opens_arr (isAr_spec (by kernel_rfl)) oInt (by kernel_rfl) (by decide)
theorem oGiven : Opens Try.prog 43 Given := ⟨by kernel_rfl, by decide, fun h => by
  obtain ⟨a, b, hab⟩ := opens_st2 (α := Int) (β := Arr 6 Int) (u0 := 3) (u1 := 41) (by kernel_rfl) oInt oMark (by kernel_rfl) h
  exact ⟨⟨a, b⟩, hab⟩⟩
theorem oGivens : Opens Try.prog 24 (List Given) := opens_list (by kernel_rfl) oGiven (by kernel_rfl)
theorem oMarks : Opens Try.prog 26 Marks := ⟨by kernel_rfl, by decide, fun h => by
  obtain ⟨a, b, c, hab⟩ := opens_st3 (α := Arr 5 Int) (β := Int) (γ := List Given) (u0 := 23) (u1 := 3) (u2 := 24) (by kernel_rfl) oWear oInt oGivens (by kernel_rfl) h
  exact ⟨⟨a, b, c⟩, hab⟩⟩
theorem rvs3 {w : World} {D : Dom} {E : Env} {x y z : AV} {a b c : Value} (hx : ∃ cs, isPack x a cs ∧ rc w D E x cs) (hy : ∃ cs, isPack y b cs ∧ rc w D E y cs) (hz : ∃ cs, isPack z c cs ∧ rc w D E z cs) : rvs w D E [x, y, z] [a, b, c] := by
  obtain ⟨c1, h1, h2⟩ := hx
  obtain ⟨c2, h3, h4⟩ := hy
  obtain ⟨c3, h5, h6⟩ := hz
  simp only [rvs]
  exact ⟨a, [b, c], c1, rfl, h1, h2, b, [c], c2, rfl, h3, h4, c, [], c3, rfl, h5, h6, rfl⟩
end Go.Proofs.Ytkjkbpgdpnapfaa

/-
  PROVED HERE: the law MarkLooks returns true for every input, and each argument reads afterwards as it read before. Conditions: none beyond the statement's own.
-/
namespace Go.Proofs.Ytkjkbpgdpnapfaa
open Go Go.Abs Go.ChangeShapes Go.WideShapes Go.ChangeAt Go.RowKit
open Go.Abs.Enc (enc)
theorem oSights : Opens Try.prog 31 Sights := ⟨by kernel_rfl, by decide, fun h => by
  obtain ⟨a, b, c, hab⟩ := opens_st3 (α := Arr 6 Int) (β := Arr 6 Int) (γ := List Int) (u0 := 28) (u1 := 28) (u2 := 29) (by kernel_rfl) oReading oReading oInts (by kernel_rfl) h
  exact ⟨⟨a, b, c⟩, hab⟩⟩
set_option maxRecDepth 100000 in
theorem markLooks_lifted (os : Os) (started : os.Started) (H : Type) (enc0 : TypeId × Value → H) :
    ReturnsInHanded {} Try.checked os 3 .any (Rows.markLooksSpec.pre6 enc0 Try.prog Try.f3 Rows.markLooksRow.domain false) (Rows.markLooksSpec.post enc0 Try.prog Try.f3 false true false false) := by
  refine returnsInHanded_of_change_sized (C := Try.checked) Try.own started (by kernel_rfl) Try.func3
    (ChangeSpec.witness6 (enc := enc0) (C := Try.checked) false ⟨#[], #[.agg #[.int .i64 0, .int .i64 0, .int .i64 0, .int .i64 0, .int .i64 0, .int .i64 0, .slice none 0 0], .agg #[.int .i64 0, .int .i64 0, .int .i64 0, .int .i64 0, .int .i64 0, .int .i64 0, .int .i64 0, .int .i64 0, .int .i64 0, .int .i64 0, .int .i64 0, .int .i64 0, .slice none 0 0], .slice none 0 0], []⟩ 8 (by kernel_rfl) (by kernel_rfl) (by kernel_rfl) (by kernel_rfl)) ?_
  intro W base args ds gs before hval0 hW hcnd hz0 _
  have hval : ∀ (j : Nat) t v, Try.f3.params[j]? = some t → args[j]? = some v → Value.okWide Try.prog W .any base t v := hval0
  have hz : (DataW.weightsEach Try.prog (Try.f3.params.toList ++ Rows.markLooksSpec.plain.varTypes Try.prog) (ds ++ gs)).all (· ≤ reachBytes) = true := hz0
  have hW' := hW
  obtain ⟨p, q, hA0, hV, hbef, hfz, hnd⟩ := hW
  have hA : DataW.TrodAll enc0 Try.prog W 0 (fun _ => true) true Try.f3.params.toList args.toList ds p := hA0
  rw [Try.params3] at hA hval hz
  obtain ⟨v0, v1, v2, d0, d1, d2, p0, p1, p2, rfl, rfl, rfl, h0, h1, h2⟩ := trodAll_three hA
  obtain ⟨rfl, rfl⟩ := trodVars_none hV
  obtain ⟨a0, c0, k0⟩ := open_arg oMarks rfl (by kernel_rfl) (hval 0 26 v0 rfl rfl) h0
  obtain ⟨a1, c1, k1⟩ := open_arg oSights rfl (by kernel_rfl) (hval 1 31 v1 rfl rfl) h1
  obtain ⟨a2, k2, l2⟩ := open_len oInts (e := 3) (by kernel_rfl) (hval 2 29 v2 rfl rfl) h2
  have n2 := len_bound hz (j := 2) (t := 29) (e := 3) rfl rfl (by kernel_rfl) (of_decide_eq_true (by kernel_rfl)) l2
  exact law_post (tb := 4) Try.laidOut (by rw [Try.params3]) rfl rfl (by rw [hbef]; simp) rfl rfl (by kernel_rfl) (by kernel_rfl) hW' h0 h1 h2 (by
    intro t ht
    simp only [List.mem_cons, List.mem_nil_iff, or_false] at ht
    rcases ht with rfl | rfl | rfl <;> exact ⟨by kernel_rfl, of_decide_eq_true (by kernel_rfl)⟩) (F3 a0 a1 a2 (by omega)) (rvs3 ⟨c0, k0⟩ ⟨c1, k1⟩ k2)
theorem markLooks_holds : Rows.MarkLooksSaid :=
  OpenClaim.holds_of_wide 3 Try.f3 rfl rfl rfl rfl rfl rfl rfl ⟨rfl, rfl, rfl, rfl, rfl⟩ rfl rfl rfl rfl rfl (by kernel_rfl) Try.func3 (by kernel_rfl)
    (of_decide_eq_true (by kernel_rfl)) (by unfold Func.isWrapper; first | (rw [if_pos (by decide +kernel)]; kernel_rfl) | (rw [if_neg (by decide +kernel)]; exact ⟨rfl, rfl⟩))
    (fun os started H enc0 _ => markLooks_lifted os started H enc0)
#print axioms markLooks_holds
end Go.Proofs.Ytkjkbpgdpnapfaa

