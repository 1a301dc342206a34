/-
  FUNCTIONS OF slices BY CONTRACT, over given marks: DeleteFunc.
-/
import Derived.Test.YtkjkbpgdpnapfaaRows
import Derived.Test.YtkjkbpgdpnapfaaMnd
set_option linter.unusedSimpArgs false
set_option linter.unusedVariables false
namespace Go.Proofs.Ytkjkbpgdpnapfaa
open Go Go.Abs
open Go.Abs.Enc (enc)
theorem F73n (f : FuncId) (caps : List AV) (hcaps : AV.dones caps = true) : Ctr Try.prog 73 [enc ([] : List Given), .func f caps] (enc ([] : List Given)) := by
  refine Ctr.mk' Try.func73 ca73 cc73 cr73 (Nat.le_of_ble_eq_true rfl) (fun hwf W0 D0 E1 => ?_)
  simp only [c73, r73, idx, Nat.zero_add, Nat.reduceAdd]
  have hcl : AV.closeds caps = true := dones_closed caps hcaps
  have hfc : ∀ bx A, fins bx A caps = some caps := fun bx A => fins_dones bx A caps hcaps
  refine AW.seq (AW.reg cd73_0 fun K hK => ?_)
  simp only [g73_0, bR, Nat.reduceEqDiff, reduceIte, Int.reduceBNe, Int.reduceBEq]
  refine .done (hK _ ?_); clear hK K; simp only [thenQ, blockQ]
  refine AW.seq (AW.reg cd73_1 fun K hK => ?_)
  simp only [g73_1, bR, Nat.reduceEqDiff, reduceIte, Int.reduceBNe, Int.reduceBEq]
  simp only [e_fin, hfc, bR, Nat.reduceEqDiff, reduceIte, Int.reduceBNe, Int.reduceBEq]
  refine .flat _ (F108 [] f caps hcaps (fun _ => false) (fun x hx => by cases hx)) rfl ?_
  simp only [List.findIdx?_nil, bR, Nat.reduceEqDiff, reduceIte, Int.reduceBNe, Int.reduceBEq]
  refine .done (hK _ ?_); clear hK K; simp only [thenQ, blockQ]
  refine AW.seq (AW.seq ?_)
  refine AW.reg cd73_2 fun K hK => ?_
  simp only [g73_2, bR, Nat.reduceEqDiff, reduceIte, Int.reduceBNe, Int.reduceBEq]
  refine .done (hK _ ?_); clear hK K; simp only [thenQ, blockQ]
  refine AW.ite ?_
  simp only [condQ, bR, Nat.reduceEqDiff, reduceIte, Int.reduceBNe, Int.reduceBEq]
  refine ⟨fun h => ?_, fun h => ?_⟩
  · refine AW.seq (AW.reg cd73_3 fun K hK => ?_)
    simp only [g73_3, bR, Nat.reduceEqDiff, reduceIte, Int.reduceBNe, Int.reduceBEq]
    refine .done (hK _ ?_); clear hK K; simp only [thenQ, blockQ]
    refine AW.ret ?_
    simp only [blockQ, thenQ, bR, Nat.reduceEqDiff, reduceIte, Int.reduceBNe, Int.reduceBEq]
    simp only [e_fin, bR, Nat.reduceEqDiff, reduceIte, Int.reduceBNe, Int.reduceBEq]
  · cases h
def keep (p : Given → Bool) (l : List Given) : List Given := l.filter fun x => !p x
def delPost (k : Nat) (l : List Given) : Post := fun r os' => ∃ m, r = .view k [] 7 0 l.length ∧ os' = rowG k l m
theorem onlys_rep (p : Nat → Bool) (m : Nat) (x : Given) : AV.onlys p (List.replicate m (enc x)) = true := by
  have : List.replicate m (enc x) = (List.replicate m x).map (enc (α := Given)) := by simp
  rw [this]; exact onlys_map p _
theorem onlys_set (p : Nat → Bool) (xs : List Given) (i : Nat) (v : Given) : AV.onlys p ((xs.map enc).set i (enc v)) = true := by
  rw [← List.map_set]; exact onlys_map p _
theorem rowG_get {xs : List Given} {m j : Nat} (h : j < xs.length) : ((xs ++ List.replicate m g0).map (enc (α := Given)))[0 + j]? = some (enc xs[j]) := by
  rw [Nat.zero_add, List.getElem?_map, List.getElem?_append_left h, List.getElem?_eq_getElem h]; rfl
theorem rowG_set {xs : List Given} {m i : Nat} (h : i < xs.length) (v : Given) : ((xs ++ List.replicate m g0).map (enc (α := Given))).set (0 + i) (enc v) = (xs.set i v ++ List.replicate m g0).map enc := by
  rw [Nat.zero_add, ← List.map_set, List.set_append_left _ _ h]
theorem take_row (l : List Given) (m : Nat) : (l ++ List.replicate m g0).take l.length = l := List.take_left
theorem filter_take_succ (p : Given → Bool) (l : List Given) {j : Nat} (h : j < l.length) : keep p (l.take (j + 1)) = keep p (l.take j) ++ (if p l[j] then [] else [l[j]]) := by
  rw [List.take_succ_eq_append_getElem h]
  simp only [keep, List.filter_append, List.filter_cons, List.filter_nil]
  cases p l[j] <;> simp
theorem F73 (l : List Given) (f : FuncId) (caps : List AV) (hcaps : AV.dones caps = true) (p : Given → Bool) (hf : ∀ x ∈ l, Ctr Try.prog f (enc x :: caps) (enc (p x))) (hlen : l.length ≤ 1000) (m : Nat) :
    CtrO Try.prog 73 [.view 1000000 [] 7 0 l.length, .func f caps] (rowG 1000000 l m) (delPost 1000000 (keep p l)) := by
  refine CtrO.mk' Try.func73 ca73 cc73 cr73 (Nat.le_of_ble_eq_true rfl) (Nat.le_of_ble_eq_true rfl) (fun m hm => by rw [isIn_one.1 hm]; exact Nat.le_refl _) (fun hwf W0 D0 E1 => ?_)
  simp only [c73, r73, idx, Nat.zero_add, Nat.reduceAdd]
  have hcl : AV.closeds caps = true := dones_closed caps hcaps
  have hfc : ∀ bx A, fins bx A caps = some caps := fun bx A => fins_dones bx A caps hcaps
  have hon : ∀ q, AV.onlys q caps = true := fun q => onlys_closed q caps hcl
  simp only [rowG]
  refine AW.seq (AW.reg cd73_0 fun K hK => ?_)
  simp only [g73_0, bR, Nat.reduceEqDiff, reduceIte, Int.reduceBNe, Int.reduceBEq]
  refine .done (hK _ ?_); clear hK K; simp only [thenQ, blockQ]
  refine AW.seq (AW.reg cd73_1 fun K hK => ?_)
  simp only [g73_1, bR, Nat.reduceEqDiff, reduceIte, Int.reduceBNe, Int.reduceBEq]
  simp only [hfc, finV_take (α := Given) (sz := 7) rfl, take_row, bR, Nat.reduceEqDiff, reduceIte, Int.reduceBNe, Int.reduceBEq]
  refine .flat _ (F108 l f caps hcaps p hf) rfl ?_
  simp only [bR, Nat.reduceEqDiff, reduceIte, Int.reduceBNe, Int.reduceBEq]
  refine .done (hK _ ?_); clear hK K; simp only [thenQ, blockQ]
  generalize hfi : l.findIdx? p = fi
  cases fi with
  | none =>
    rw [List.findIdx?_eq_none_iff] at hfi
    have hk : keep p l = l := by
      simp only [keep, List.filter_eq_self]; intro x hx; simp [hfi x hx]
    refine AW.seq (AW.seq ?_)
    refine AW.reg cd73_2 fun K hK => ?_
    simp only [g73_2, bR, Nat.reduceEqDiff, reduceIte, Int.reduceBNe, Int.reduceBEq]
    refine .done (hK _ ?_); clear hK K; simp only [thenQ, blockQ]
    refine AW.ite ?_
    simp only [condQ, bR, Nat.reduceEqDiff, reduceIte, Int.reduceBNe, Int.reduceBEq]
    refine ⟨fun h => ?_, fun h => ?_⟩
    · refine AW.seq (AW.reg cd73_3 fun K hK => ?_)
      simp only [g73_3, bR, Nat.reduceEqDiff, reduceIte, Int.reduceBNe, Int.reduceBEq]
      refine .done (hK _ ?_); clear hK K; simp only [thenQ, blockQ]
      refine AW.ret ?_
      simp only [blockQ, thenQ, retO_ret]
      rw [hk]
      exact ⟨rowG 1000000 l m, [.view 1000000 [] 7 0 l.length], held1 rfl (fun p => map_only p _), ⟨⟨_, rfl, .inl ⟨rfl, rfl, rfl⟩⟩, trivial⟩, m, rfl, rfl⟩
    · cases h
  | some i0 =>
    obtain ⟨q1, q2, q3⟩ := List.findIdx?_eq_some_iff_getElem.1 hfi
    have hstart : l.take i0 = keep p (l.take (i0 + 1)) := by
      rw [filter_take_succ p l q1, q2]
      simp only [if_true, List.append_nil, keep]
      symm
      rw [List.filter_eq_self]
      intro x hx
      rw [List.mem_take_iff_getElem] at hx
      obtain ⟨j, hj, rfl⟩ := hx
      have := q3 j (by omega)
      simpa using this
    refine AW.seq (AW.seq ?_)
    refine AW.reg cd73_2 fun K hK => ?_
    simp only [g73_2, bR, Nat.reduceEqDiff, reduceIte, Int.reduceBNe, Int.reduceBEq]
    refine .done (hK _ ?_); clear hK K; simp only [thenQ, blockQ]
    refine AW.ite ?_
    simp only [condQ, bR, Nat.reduceEqDiff, reduceIte, Int.reduceBNe, Int.reduceBEq]
    refine ⟨fun h => ?_, fun h => ?_⟩
    · simp at h
    refine AW.skip ?_; simp only [thenQ, blockQ, reduceIte, Nat.reduceEqDiff]
    refine AW.seq (AW.seq ?_)
    refine AW.reg cd73_4 fun K hK => ?_
    simp only [g73_4, bR, Nat.reduceEqDiff, reduceIte, Int.reduceBNe, Int.reduceBEq]
    refine .done (hK _ ?_); clear hK K; simp only [thenQ, blockQ]
    refine AW.block (AW.loop (fun s : List Given × Nat × Nat => mkA [(0, .view 1000000 [] 7 0 l.length), (1, .func f caps), (5, .int .i64 s.2.1), (6, .int .i64 s.2.2)] [(1000000, .box (.agg ((s.1 ++ List.replicate m g0).map enc)))])
      (fun s => s.1.length = l.length ∧ s.2.1 < s.2.2 ∧ s.2.2 ≤ l.length ∧ s.1.take s.2.1 = keep p (l.take s.2.2) ∧ s.1.drop s.2.2 = l.drop s.2.2) (fun s => l.length - s.2.2) (l, i0, i0 + 1) ⟨rfl, by simp only; omega, by simp only; omega, hstart, rfl⟩ ?_ ?_)
    · rw [wrap_id _ (by omega) (by omega)]
      refine Sub.of_lists ?_ ?_ ?_ ?_ <;> simp [subT, subO, onlyT, onlyO, isIn, look_cons, lookO_cons, lookO_nil, AV.only, AV.onlys, AO.only, onlys_map, onlys_append, e_only, e_int, e_bool, hon, onlys_rep, onlys_set]
    · rintro ⟨xs, i, j⟩ ⟨c1, c2, c3, c4, c5⟩
      simp only at c1 c2 c3 c4 c5 ⊢
      refine AW.seq (AW.seq ?_)
      refine AW.reg cd73_5 fun K hK => ?_
      simp only [g73_5, bR, Nat.reduceEqDiff, reduceIte, Int.reduceBNe, Int.reduceBEq]
      simp only [viewR, bR, Nat.reduceEqDiff, reduceIte, Int.reduceBNe, Int.reduceBEq]
      refine .done (hK _ ?_); clear hK K; simp only [thenQ, blockQ]
      refine AW.ite ?_
      simp only [condQ, bR, Nat.reduceEqDiff, reduceIte, Int.reduceBNe, Int.reduceBEq]
      refine ⟨fun h => ?_, fun h => ?_⟩
      · have hj : j < l.length := by simpa using h
        have hjx : j < xs.length := by omega
        have hix : i < xs.length := by omega
        have hxj : xs[j] = l[j] := by
          have h1 : (xs.drop j)[0]? = (l.drop j)[0]? := by rw [c5]
          simpa [hj, hjx] using h1
        refine AW.skip ?_; simp only [thenQ, blockQ, reduceIte, Nat.reduceEqDiff]
        refine AW.seq (AW.block ?_)
        refine AW.seq (AW.reg cd73_6 fun K hK => ?_)
        simp only [g73_6, bR, Nat.reduceEqDiff, reduceIte, Int.reduceBNe, Int.reduceBEq]
        simp only [viewR, isV_ok (sz := 7) hj, List.nil_append, bR, Nat.reduceEqDiff, reduceIte, Int.reduceBNe, Int.reduceBEq]
        simp only [rowG_get hjx, hxj, typR, bR, Nat.reduceEqDiff, reduceIte, Int.reduceBNe, Int.reduceBEq]
        rw [stR3_ok (e_isVal _) (by rw [e_okS]; rfl) ((e_sh _).trans rfl)]
        simp only [typR, useR, okR, bR, Nat.reduceEqDiff, reduceIte, Int.reduceBNe, Int.reduceBEq]
        refine .done (hK _ ?_); clear hK K; simp only [thenQ, blockQ]
        refine AW.seq (AW.reg cd73_7 fun K hK => ?_)
        simp only [g73_7, bR, Nat.reduceEqDiff, reduceIte, Int.reduceBNe, Int.reduceBEq]
        simp only [typR, useR, okR, e_fin, hfc, List.cons_append, List.nil_append, bR, Nat.reduceEqDiff, reduceIte, Int.reduceBNe, Int.reduceBEq]
        refine .flat _ (hf _ (List.getElem_mem hj)) rfl ?_
        simp only [bR, Nat.reduceEqDiff, reduceIte, Int.reduceBNe, Int.reduceBEq]
        refine .done (hK _ ?_); clear hK K; simp only [thenQ, blockQ]
        refine AW.ite ?_
        simp only [condQ, bR, Nat.reduceEqDiff, reduceIte, Int.reduceBNe, Int.reduceBEq]
        refine ⟨fun h => ?_, fun h => ?_⟩
        · have hpj : p l[j] = false := by simpa using h
          refine AW.seq (AW.reg cd73_8 fun K hK => ?_)
          simp only [g73_8, bR, Nat.reduceEqDiff, reduceIte, Int.reduceBNe, Int.reduceBEq]
          simp only [typR, useR, okR, e_fin, viewR, isV_ok (sz := 7) (show i < l.length by omega), List.nil_append, bR, Nat.reduceEqDiff, reduceIte, Int.reduceBNe, Int.reduceBEq]
          simp only [rowG_get hix, bR, Nat.reduceEqDiff, reduceIte, Int.reduceBNe, Int.reduceBEq]
          rw [stR3_ok (e_isVal _) (by rw [e_okS]; rfl) ((e_sh _).trans (e_sh _).symm)]
          simp only [rowG_get hix, rowG_set hix, bR, Nat.reduceEqDiff, reduceIte, Int.reduceBNe, Int.reduceBEq]
          refine .done (hK _ ?_); clear hK K; simp only [thenQ, blockQ]
          refine AW.reg cd73_9 fun K hK => ?_
          simp only [g73_9, bR, Nat.reduceEqDiff, reduceIte, Int.reduceBNe, Int.reduceBEq]
          refine .done (hK _ ?_); clear hK K; simp only [thenQ, blockQ]
          refine AW.reg cd73_10 fun K hK => ?_
          simp only [g73_10, bR, Nat.reduceEqDiff, reduceIte, Int.reduceBNe, Int.reduceBEq]
          refine .done (hK _ ?_); clear hK K; simp only [thenQ, blockQ]
          refine ⟨(xs.set i l[j], i + 1, j + 1), ⟨by simp [c1], by simp only; omega, by simp only; omega, ?_, ?_⟩, by simp only; omega, ?_⟩
          · simp only
            rw [filter_take_succ p l hj, hpj, ← c4]
            simp only [Bool.false_eq_true, if_false]
            rw [List.take_succ_eq_append_getElem (by simpa using hix), List.take_set_of_le (Nat.le_refl _)]
            simp
          · simp only
            rw [List.drop_set_of_lt (by omega)]
            have : (xs.drop j).drop 1 = (l.drop j).drop 1 := by rw [c5]
            simpa [List.drop_drop] using this
          · simp only
            rw [wrap_id _ (by omega) (by omega), wrap_id _ (by omega) (by omega)]
            refine Sub.of_lists ?_ ?_ ?_ ?_ <;> simp [subT, subO, onlyT, onlyO, isIn, look_cons, lookO_cons, lookO_nil, AV.only, AV.onlys, AO.only, onlys_map, onlys_append, e_only, e_int, e_bool, hon, onlys_rep, onlys_set]
        · have hpj : p l[j] = true := by simpa using h
          refine AW.skip ?_; simp only [thenQ, blockQ, reduceIte, Nat.reduceEqDiff]
          refine AW.reg cd73_10 fun K hK => ?_
          simp only [g73_10, bR, Nat.reduceEqDiff, reduceIte, Int.reduceBNe, Int.reduceBEq]
          refine .done (hK _ ?_); clear hK K; simp only [thenQ, blockQ]
          refine ⟨(xs, i, j + 1), ⟨c1, by simp only; omega, by simp only; omega, ?_, ?_⟩, by simp only; omega, ?_⟩
          · simp only
            rw [filter_take_succ p l hj, hpj, ← c4]
            simp
          · simp only
            have : (xs.drop j).drop 1 = (l.drop j).drop 1 := by rw [c5]
            simpa [List.drop_drop] using this
          · simp only
            rw [wrap_id _ (by omega) (by omega)]
            refine Sub.of_lists ?_ ?_ ?_ ?_ <;> simp [subT, subO, onlyT, onlyO, isIn, look_cons, lookO_cons, lookO_nil, AV.only, AV.onlys, AO.only, onlys_map, onlys_append, e_only, e_int, e_bool, hon, onlys_rep, onlys_set]
      · have hj : j = l.length := by simp at h; omega
        subst hj
        rw [List.take_length] at c4
        have hlk : (keep p l).length = i := by rw [← c4, List.length_take]; omega
        have htot : ((xs ++ List.replicate m g0).map (enc (α := Given))).length = l.length + m := by simp [c1]
        refine AW.exit ?_; simp only [thenQ, blockQ, reduceIte, Nat.reduceEqDiff]
        refine AW.seq (AW.reg cd73_11 fun K hK => ?_)
        simp only [g73_11, bR, Nat.reduceEqDiff, reduceIte, Int.reduceBNe, Int.reduceBEq]
        simp only [viewR, htot, Option.map_none, sliceV_lo (show i ≤ l.length by omega) (show l.length ≤ l.length + m by omega) (show i < l.length + m by omega), e_g0, bR, Nat.reduceEqDiff, reduceIte, Int.reduceBNe, Int.reduceBEq]
        rw [clrO_enc g0 rfl (by simp [c1]; omega)]
        have hcont : (xs ++ List.replicate m g0).take i ++ (List.replicate (l.length - i) g0 ++ (xs ++ List.replicate m g0).drop (i + (l.length - i))) = keep p l ++ List.replicate (l.length - i + m) g0 := by
          rw [List.take_append_of_le_length (by omega), c4]
          have e1 : i + (l.length - i) = xs.length := by omega
          rw [e1, List.drop_left, List.replicate_append_replicate]
        rw [hcont]
        simp only [bR, Nat.reduceEqDiff, reduceIte, Int.reduceBNe, Int.reduceBEq]
        refine .done (hK _ ?_); clear hK K; simp only [thenQ, blockQ]
        have htot2 : ((keep p l ++ List.replicate (l.length - i + m) g0).map (enc (α := Given))).length = l.length + m := by simp [hlk]; omega
        refine AW.seq (AW.reg cd73_12 fun K hK => ?_)
        simp only [g73_12, bR, Nat.reduceEqDiff, reduceIte, Int.reduceBNe, Int.reduceBEq]
        simp only [viewR, htot2, Option.map_none, sliceV_hi (show i ≤ l.length + m by omega) (show 0 < l.length + m by omega), bR, Nat.reduceEqDiff, reduceIte, Int.reduceBNe, Int.reduceBEq]
        refine .done (hK _ ?_); clear hK K; simp only [thenQ, blockQ]
        refine AW.ret ?_
        simp only [blockQ, thenQ, retO_ret]
        exact ⟨rowG 1000000 (keep p l) (l.length - i + m), [.view 1000000 [] 7 0 i], held1 rfl (fun p => map_only p _), ⟨⟨_, rfl, .inl ⟨rfl, rfl, rfl⟩⟩, trivial⟩, l.length - i + m, by rw [hlk]; rfl, rfl⟩
end Go.Proofs.Ytkjkbpgdpnapfaa

/-
  FUNCTIONS OF THE PACKAGE mark BY CONTRACT: possible, owners, Owners, Owner.
-/
namespace Go.Proofs.Ytkjkbpgdpnapfaa
open Go Go.Abs
open Go.Abs.Enc (enc)
theorem F105 (m : Marks) (r : Arr 6 Int) (g : Given) (hg : okMark g.mark = true) : Ctr Try.prog 105 (enc g :: [.ref (enc m), .ref (enc r)]) (enc (decide (m.fls < costOf m.wear g.mark r))) := by
  refine Ctr.mk' Try.func105 ca105 cc105 cr105 (Nat.le_of_ble_eq_true rfl) (fun hwf W0 D0 E1 => ?_)
  simp only [c105, r105, idx, Nat.zero_add, Nat.reduceAdd]
  refine AW.seq (AW.reg cd105_0 fun K hK => ?_)
  simp only [g105_0, bR, Nat.reduceEqDiff, reduceIte, Int.reduceBNe, Int.reduceBEq]
  simp only [e_isVal, bR, Nat.reduceEqDiff, reduceIte, Int.reduceBNe, Int.reduceBEq]
  refine .done (hK _ ?_); clear hK K; simp only [thenQ, blockQ]
  refine AW.seq (AW.reg cd105_1 fun K hK => ?_)
  simp only [g105_1, bR, Nat.reduceEqDiff, reduceIte, Int.reduceBNe, Int.reduceBEq]
  simp only [typR, useR, okR, e_fin, bR, Nat.reduceEqDiff, reduceIte, Int.reduceBNe, Int.reduceBEq]
  refine .flat _ (F88 m.wear g.mark r hg) rfl ?_
  simp only [typR, useR, okR, bR, Nat.reduceEqDiff, reduceIte, Int.reduceBNe, Int.reduceBEq]
  refine .done (hK _ ?_); clear hK K; simp only [thenQ, blockQ]
  refine AW.ret ?_
  simp only [blockQ, thenQ, bR, Nat.reduceEqDiff, reduceIte, Int.reduceBNe, Int.reduceBEq]
def possG (m : Marks) (r : Arr 6 Int) : List Given := keep (fun g => decide (m.fls < costOf m.wear g.mark r)) m.given
def possPost (d : Nat) (m : Marks) (r : Arr 6 Int) : Post := fun x os' => (possG m r = [] ∧ x = enc ([] : List Given) ∧ os' = []) ∨ ∃ k, x = .view d [] 7 0 (possG m r).length ∧ os' = rowG d (possG m r) k
theorem F65 (m : Marks) (r : Arr 6 Int) (hm : ∀ g ∈ m.given, okMark g.mark = true) (hlen : m.given.length ≤ 1000) : CtrO Try.prog 65 [enc m, enc r] [] (possPost 7 m r) := by
  refine CtrO.mk' Try.func65 ca65 cc65 cr65 (Nat.le_of_ble_eq_true rfl) (Nat.le_of_ble_eq_true rfl) (fun m hm => by simp [isIn, lookO] at hm) (fun hwf W0 D0 E1 => ?_)
  simp only [c65, r65, idx, Nat.zero_add, Nat.reduceAdd]
  refine AW.seq (AW.reg cd65_0 fun K hK => ?_)
  simp only [g65_0, bR, Nat.reduceEqDiff, reduceIte, Int.reduceBNe, Int.reduceBEq]
  simp only [e_isVal, bR, Nat.reduceEqDiff, reduceIte, Int.reduceBNe, Int.reduceBEq]
  refine .done (hK _ ?_); clear hK K; simp only [thenQ, blockQ]
  refine AW.seq (AW.reg cd65_1 fun K hK => ?_)
  simp only [g65_1, bR, Nat.reduceEqDiff, reduceIte, Int.reduceBNe, Int.reduceBEq]
  simp only [typR, useR, okR, e_fin, bR, Nat.reduceEqDiff, reduceIte, Int.reduceBNe, Int.reduceBEq]
  refine .obj false [(7, 7)] [] [enc m.given] (clonePost m.given) rfl (F85 m.given hlen) Gvn.nil ⟨.inl ⟨(e_ren _ _).symm, e_only _ _, e_isVal _⟩, trivial⟩ ?_ ?_
  · rintro x os' (⟨_, h | h, rfl⟩ | ⟨_, k, rfl, rfl⟩)
    · subst h; exact Bck.nil (fun _ => rfl) (fun h => by cases h)
    · subst h; exact Bck.nil (fun _ => rfl) (fun h => by cases h)
    · exact Bck.new1 (fun p => map_only p _) (fun h => by cases h) rfl (fun h => by cases h) rfl (by decide)
  · have hd : AV.dones [.ref (enc m), .ref (enc r)] = true := by simp only [AV.dones, AV.done, e_closed, Bool.and_self]
    rintro x os' (⟨hn, h, rfl⟩ | ⟨hn, k, rfl, rfl⟩)
    · have hp : possG m r = [] := by simp [possG, keep, hn]
      have key : ∀ x, (x = .nils 7 ∨ x = .c0 7) → fin true (mkA [] []) x = some (enc ([] : List Given)) := by rintro x (rfl | rfl) <;> rfl
      have hren : ∀ x : AV, (x = .nils 7 ∨ x = .c0 7) → x.ren (rnm [(7, 7)]) = x ∧ x.isVal = true := by rintro x (rfl | rfl) <;> exact ⟨by simp only [AV.ren], rfl⟩
      rw [(hren x h).1]
      simp only [renR, List.nil_append, List.all_cons, List.all_nil, AV.isVal, Bool.and_self, bR, Nat.reduceEqDiff, reduceIte, Int.reduceBNe, Int.reduceBEq]
      have hfx : ∀ A, fin true A x = some (enc ([] : List Given)) := fun A => by rcases h with rfl | rfl <;> simp only [fin, e_list, List.map_nil] <;> rfl
      refine .free [2, 3] (enc ([] : List Given)) rfl (F73n 105 [.ref (enc m), .ref (enc r)] hd) ?_ ?_ ?_
      · simp only [hfx, keepO, List.filter_cons, List.filter_nil, List.contains_cons, Nat.reduceBEq, Bool.or_false, Bool.or_true, Bool.true_or, BEq.rfl, e_closed, bR, Nat.reduceEqDiff, reduceIte, Int.reduceBNe, Int.reduceBEq]
      · simp [dropO, onlyO]
      · simp only [fgt, dropO, List.filter_cons, List.filter_nil, List.contains_cons, Nat.reduceBEq, Bool.or_false, Bool.or_true, Bool.true_or, BEq.rfl, List.map_cons, List.map_nil, bR, Nat.reduceEqDiff, reduceIte, Int.reduceBNe, Int.reduceBEq]
        refine .done (hK _ ?_); clear hK K; simp only [thenQ, blockQ]
        refine AW.ret ?_
        simp only [blockQ, thenQ, retO_ret]
        exact ⟨[], [enc ([] : List Given)], held0, ⟨⟨_, rfl, .inl ⟨rfl, rfl, rfl⟩⟩, trivial⟩, .inl ⟨hp, rfl, rfl⟩⟩
    · simp only [rowG, renR, rens_map_enc, List.cons_append, List.nil_append, List.all_cons, List.all_nil, AV.isVal, Bool.and_self, bR, Nat.reduceEqDiff, reduceIte, Int.reduceBNe, Int.reduceBEq]
      refine .obj true [(1000000, 7)] (rowG 1000000 m.given k) [.view 1000000 [] 7 0 m.given.length, .func 105 [.ref (enc m), .ref (enc r)]] (delPost 1000000 (possG m r)) rfl
        (F73 m.given 105 [.ref (enc m), .ref (enc r)] hd (fun g => decide (m.fls < costOf m.wear g.mark r)) (fun g hg => F105 m r g (hm g hg)) hlen k) ⟨?_, ?_⟩ ⟨.inl ⟨?_, ?_, rfl⟩, .inr ?_, trivial⟩ ?_ ?_
      · intro n x h
        simp only [rowG, lookO] at h
        split at h
        · rename_i hn'
          subst hn'
          simp only [Option.some.injEq] at h
          subst h
          exact ⟨by simp only [renR, rens_map_enc, bR, Nat.reduceEqDiff, reduceIte, Int.reduceBNe, Int.reduceBEq], map_only _ _, rfl⟩
        · cases h
      · intro a b ha hb _
        rw [isIn_one.1 ha, isIn_one.1 hb]
      · simp only [renR, bR, Nat.reduceEqDiff, reduceIte, Int.reduceBNe, Int.reduceBEq]
      · exact isIn_one.2 rfl
      · simp only [names, rowG, rnm, dropO, List.filter_cons, List.filter_nil, List.map_cons, List.map_nil, List.contains_cons, List.contains_nil, Nat.reduceBEq, Bool.or_false, Bool.or_true, Bool.true_or, BEq.rfl, e_closed, bR, Nat.reduceEqDiff, reduceIte, Int.reduceBNe, Int.reduceBEq]
      · rintro x os' ⟨k', rfl, rfl⟩
        exact Bck.one (fun p => map_only p _) (fun _ => map_lean _) (isIn_one.2 rfl) (fun _ => rfl)
      · rintro x os' ⟨k', rfl, rfl⟩
        simp only [rowG, renR, rens_map_enc, List.cons_append, List.nil_append, bR, Nat.reduceEqDiff, reduceIte, Int.reduceBNe, Int.reduceBEq]
        refine .done (hK _ ?_); clear hK K; simp only [thenQ, blockQ]
        refine AW.ret ?_
        simp only [blockQ, thenQ, retO_ret]
        exact ⟨rowG 7 (possG m r) k', [.view 7 [] 7 0 (possG m r).length], held1 rfl (fun p => map_only p _), ⟨⟨_, rfl, .inl ⟨rfl, rfl, rfl⟩⟩, trivial⟩, .inr ⟨k', rfl, rfl⟩⟩
end Go.Proofs.Ytkjkbpgdpnapfaa

/-
  FUNCTIONS OF THE PACKAGE mark BY CONTRACT: owners, Owners, Owner.
-/
namespace Go.Proofs.Ytkjkbpgdpnapfaa
open Go Go.Abs
open Go.Abs.Enc (enc)
def ownL (l : List Given) (i : Nat) : List Int := (l.take i).map (·.owner)
theorem ownL_zero (l : List Given) : ownL l 0 = [] := by simp [ownL]
theorem ownL_succ {l : List Given} {i : Nat} (h : i < l.length) : ownL l (i + 1) = ownL l i ++ [l[i].owner] := by
  simp only [ownL]; rw [List.take_succ_eq_append_getElem h, List.map_append]; rfl
theorem ownL_len {l : List Given} {i : Nat} (h : i ≤ l.length) : (ownL l i).length = i := by simp [ownL]; omega
theorem ownL_all (l : List Given) : ownL l l.length = l.map (·.owner) := by simp [ownL]
theorem F72 (l : List Given) (hlen : l.length ≤ 1000) : Ctr Try.prog 72 [enc l] (enc (l.map (·.owner))) := by
  refine Ctr.mk' Try.func72 ca72 cc72 cr72 (Nat.le_of_ble_eq_true rfl) (fun hwf W0 D0 E1 => ?_)
  simp only [c72, r72, idx, Nat.zero_add, Nat.reduceAdd]
  refine AW.seq (AW.reg cd72_0 fun K hK => ?_)
  simp only [g72_0, bR, Nat.reduceEqDiff, reduceIte, Int.reduceBNe, Int.reduceBEq]
  refine .done (hK _ ?_); clear hK K; simp only [thenQ, blockQ]
  refine AW.seq (AW.reg cd72_1 fun K hK => ?_)
  simp only [g72_1, bR, Nat.reduceEqDiff, reduceIte, Int.reduceBNe, Int.reduceBEq]
  refine .done (hK _ ?_); clear hK K; simp only [thenQ, blockQ]
  refine AW.seq ?_
  refine AW.seq (AW.reg cd72_2 fun K hK => ?_)
  simp only [g72_2, useR, bR, Nat.reduceEqDiff, reduceIte, Int.reduceBNe, Int.reduceBEq]
  refine .done (hK _ ?_); clear hK K; simp only [thenQ, blockQ]
  refine AW.block (AW.loop (fun i : Nat => mkA [(3, .own 3 (ownL l i).length), (6, enc l), (7, .int .i64 l.length), (8, .int .i64 i)] [(3, .row 3 1 ((ownL l i).map enc))]) (fun i => i ≤ l.length) (fun i => l.length - i) 0 (Nat.zero_le _) ?_ (fun i hi => ?_))
  · refine Sub.adoptL 3 3 3 1 1 ?_ ?_ ?_
    · simp only [absR, Nat.reduceEqDiff, reduceIte]
    · simp only [absR]
    · simp only [ownL_zero, List.map_nil, List.length_nil]
      refine Sub.of_lists ?_ ?_ ?_ ?_ <;> simp [subT, subO, onlyT, onlyO, isIn, look_cons, lookO_cons, lookO_nil, AV.only, AV.onlys, AO.only, onlys_map, onlys_append, e_only, e_int, e_bool]
  · refine AW.seq (AW.reg cd72_3 fun K hK => ?_)
    simp only [g72_3, bR, Nat.reduceEqDiff, reduceIte, Int.reduceBNe, Int.reduceBEq]
    refine .done (hK _ ?_); clear hK K; simp only [thenQ, blockQ]
    refine AW.seq ?_
    refine AW.ite ?_
    simp only [condQ, bR, Nat.reduceEqDiff, reduceIte, Int.reduceBNe, Int.reduceBEq]
    refine ⟨fun h => ?_, fun h => ?_⟩
    · have hlt : i < l.length := by simpa using h
      refine AW.skip ?_; simp only [thenQ, blockQ, reduceIte, Nat.reduceEqDiff]
      refine AW.seq (AW.block ?_)
      refine AW.seq (AW.reg cd72_4 fun K hK => ?_)
      simp only [g72_4, bR, Nat.reduceEqDiff, reduceIte, Int.reduceBNe, Int.reduceBEq]
      simp only [isE_nat 7 hlt rfl, typR, okR, bR, Nat.reduceEqDiff, reduceIte, Int.reduceBNe, Int.reduceBEq]
      rw [stR3_ok (e_isVal _) (by rw [e_okS]; rfl) ((e_sh _).trans rfl)]
      simp only [typR, useR, okR, bR, Nat.reduceEqDiff, reduceIte, Int.reduceBNe, Int.reduceBEq]
      refine .done (hK _ ?_); clear hK K; simp only [thenQ, blockQ]
      refine AW.reg cd72_5 fun K hK => ?_
      simp only [g72_5, bR, Nat.reduceEqDiff, reduceIte, Int.reduceBNe, Int.reduceBEq]
      simp only [typR, useR, okR, bR, Nat.reduceEqDiff, reduceIte, Int.reduceBNe, Int.reduceBEq]
      rw [appR3_enc 3 1 8 3 rfl rfl (by simp) (by simp [maxLen, ownL_len hi]; omega) (by simp [ownL_len hi]; omega)]
      simp only [bR, Nat.reduceEqDiff, reduceIte, Int.reduceBNe, Int.reduceBEq]
      refine .done (hK _ ?_); clear hK K; simp only [thenQ, blockQ]
      refine AW.reg cd72_6 fun K hK => ?_
      simp only [g72_6, bR, Nat.reduceEqDiff, reduceIte, Int.reduceBNe, Int.reduceBEq]
      refine .done (hK _ ?_); clear hK K; simp only [thenQ, blockQ]
      refine ⟨i + 1, by omega, by omega, ?_⟩
      rw [wrap_id _ (by omega) (by omega), ownL_succ hlt]
      refine Sub.of_lists ?_ ?_ ?_ ?_ <;> simp [subT, subO, onlyT, onlyO, isIn, look_cons, lookO_cons, lookO_nil, AV.only, AV.onlys, AO.only, onlys_map, onlys_append, e_only, e_int, e_bool]
    · have hge : i = l.length := by simp at h; omega
      subst hge
      refine AW.exit ?_; simp only [thenQ, blockQ, reduceIte, Nat.reduceEqDiff]
      refine AW.seq (AW.reg cd72_7 fun K hK => ?_)
      simp only [g72_7, bR, Nat.reduceEqDiff, reduceIte, Int.reduceBNe, Int.reduceBEq]
      refine .done (hK _ ?_); clear hK K; simp only [thenQ, blockQ]
      refine AW.ret ?_
      simp only [blockQ, thenQ, ownL_all, bR, Nat.reduceEqDiff, reduceIte, Int.reduceBNe, Int.reduceBEq]
theorem possG_owners (m : Marks) (r : Arr 6 Int) : (possG m r).map (·.owner) = ownersIn m r m.given := by
  simp only [possG, keep, ownersIn]
  congr 1
  refine List.filter_congr fun g _ => ?_
  by_cases h : m.fls < costOf m.wear g.mark r
  · have : ¬ costOf m.wear g.mark r ≤ m.fls := by omega
    simp [h, this]
  · have : costOf m.wear g.mark r ≤ m.fls := by omega
    simp [h, this]
theorem F26 (m : Marks) (r : Arr 6 Int) : Ctr Try.prog 26 [enc m, enc r] (.tuple [enc (ownersOf m r).1, enc (ownersOf m r).2]) := by
  refine Ctr.mk' Try.func26 ca26 cc26 cr26 (Nat.le_of_ble_eq_true rfl) (fun hwf W0 D0 E1 => ?_)
  simp only [c26, r26, idx, Nat.zero_add, Nat.reduceAdd]
  refine AW.seq (AW.reg cd26_0 fun K hK => ?_)
  simp only [g26_0, bR, Nat.reduceEqDiff, reduceIte, Int.reduceBNe, Int.reduceBEq]
  simp only [e_isVal, bR, Nat.reduceEqDiff, reduceIte, Int.reduceBNe, Int.reduceBEq]
  refine .done (hK _ ?_); clear hK K; simp only [thenQ, blockQ]
  refine AW.seq ?_
  refine AW.seq (AW.reg cd26_1 fun K hK => ?_)
  simp only [g26_1, bR, Nat.reduceEqDiff, reduceIte, Int.reduceBNe, Int.reduceBEq]
  simp only [typR, useR, okR, e_fin, bR, Nat.reduceEqDiff, reduceIte, Int.reduceBNe, Int.reduceBEq]
  refine .flat _ (F47 m) rfl ?_
  simp only [typR, useR, okR, e_fin, bR, Nat.reduceEqDiff, reduceIte, Int.reduceBNe, Int.reduceBEq]
  refine .flat _ (F45 r) rfl ?_
  simp only [typR, useR, okR, e_fin, bs2, bR, Nat.reduceEqDiff, reduceIte, Int.reduceBNe, Int.reduceBEq]
  refine .flat _ (F64 _) rfl ?_
  rw [first2 _ _ 13 12 (by decide) (by decide)]
  simp only [bR, Nat.reduceEqDiff, reduceIte, Int.reduceBNe, Int.reduceBEq]
  refine .done (hK _ ?_); clear hK K; simp only [thenQ, blockQ]
  generalize hw : okM m = bw
  generalize hr : okReading r = br
  cases bw
  · refine AW.seq (AW.reg cd26_2 fun K hK => ?_)
    simp only [g26_2, bR, Nat.reduceEqDiff, reduceIte, Int.reduceBNe, Int.reduceBEq]
    refine .done (hK _ ?_); clear hK K; simp only [thenQ, blockQ]
    refine AW.ite ?_
    simp only [condQ, bR, Nat.reduceEqDiff, reduceIte, Int.reduceBNe, Int.reduceBEq]
    refine ⟨fun h => ?_, fun h => ?_⟩
    · refine AW.seq (AW.reg cd26_3 fun K hK => ?_)
      simp only [g26_3, bR, Nat.reduceEqDiff, reduceIte, Int.reduceBNe, Int.reduceBEq]
      refine .done (hK _ ?_); clear hK K; simp only [thenQ, blockQ]
      refine AW.ret ?_
      simp only [blockQ, thenQ, bR, Nat.reduceEqDiff, reduceIte, Int.reduceBNe, Int.reduceBEq]
      simp [ownersOf, hw, nilInt]
    · cases h
  cases br
  · refine AW.seq (AW.reg cd26_2 fun K hK => ?_)
    simp only [g26_2, bR, Nat.reduceEqDiff, reduceIte, Int.reduceBNe, Int.reduceBEq]
    refine .done (hK _ ?_); clear hK K; simp only [thenQ, blockQ]
    refine AW.ite ?_
    simp only [condQ, bR, Nat.reduceEqDiff, reduceIte, Int.reduceBNe, Int.reduceBEq]
    refine ⟨fun h => ?_, fun h => ?_⟩
    · refine AW.seq (AW.reg cd26_3 fun K hK => ?_)
      simp only [g26_3, bR, Nat.reduceEqDiff, reduceIte, Int.reduceBNe, Int.reduceBEq]
      refine .done (hK _ ?_); clear hK K; simp only [thenQ, blockQ]
      refine AW.ret ?_
      simp only [blockQ, thenQ, bR, Nat.reduceEqDiff, reduceIte, Int.reduceBNe, Int.reduceBEq]
      simp [ownersOf, hw, hr, nilInt]
    · cases h
  refine AW.seq (AW.reg cd26_2 fun K hK => ?_)
  simp only [g26_2, bR, Nat.reduceEqDiff, reduceIte, Int.reduceBNe, Int.reduceBEq]
  refine .done (hK _ ?_); clear hK K; simp only [thenQ, blockQ]
  refine AW.ite ?_
  simp only [condQ, bR, Nat.reduceEqDiff, reduceIte, Int.reduceBNe, Int.reduceBEq]
  refine ⟨fun h => ?_, fun h => ?_⟩
  · cases h
  refine AW.skip ?_; simp only [thenQ, blockQ, reduceIte, Nat.reduceEqDiff]
  have hlen : m.given.length ≤ 1000 := by have := okM_len hw; omega
  have hpl : (possG m r).length ≤ 1000 := Nat.le_trans (List.length_filter_le _ _) hlen
  refine AW.seq (AW.reg cd26_4 fun K hK => ?_)
  simp only [g26_4, bR, Nat.reduceEqDiff, reduceIte, Int.reduceBNe, Int.reduceBEq]
  simp only [typR, useR, okR, e_fin, bR, Nat.reduceEqDiff, reduceIte, Int.reduceBNe, Int.reduceBEq]
  refine .obj false [(7, 18)] [] [enc m, enc r] (possPost 7 m r) rfl (F65 m r (okM_mark hw) hlen) Gvn.nil ⟨.inl ⟨(e_ren _ _).symm, e_only _ _, e_isVal _⟩, .inl ⟨(e_ren _ _).symm, e_only _ _, e_isVal _⟩, trivial⟩ ?_ ?_
  · rintro x os' (⟨_, rfl, rfl⟩ | ⟨k, rfl, rfl⟩)
    · exact Bck.nil (fun _ => rfl) (fun h => by cases h)
    · exact Bck.new1 (fun p => map_only p _) (fun h => by cases h) rfl (fun h => by cases h) rfl (by decide)
  · rintro x os' (⟨hp, rfl, rfl⟩ | ⟨k, rfl, rfl⟩)
    · simp only [e_ren, renR, List.nil_append, e_fin, bR, Nat.reduceEqDiff, reduceIte, Int.reduceBNe, Int.reduceBEq]
      refine .lead _ (F72 [] (by simp)) ?_
      simp only [List.map_nil, bR, Nat.reduceEqDiff, reduceIte, Int.reduceBNe, Int.reduceBEq]
      refine .done (hK _ ?_); clear hK K; simp only [thenQ, blockQ]
      refine AW.ret ?_
      simp only [blockQ, thenQ, bR, Nat.reduceEqDiff, reduceIte, Int.reduceBNe, Int.reduceBEq]
      simp only [e_fin, bR, Nat.reduceEqDiff, reduceIte, Int.reduceBNe, Int.reduceBEq]
      simp [ownersOf, hw, hr, ← possG_owners, hp]
    · simp only [rowG, renR, rens_map_enc, List.cons_append, List.nil_append, bR, Nat.reduceEqDiff, reduceIte, Int.reduceBNe, Int.reduceBEq]
      refine .free [18] _ rfl (F72 (possG m r) hpl) ?_ ?_ ?_
      · simp only [keepO, List.filter_cons, List.filter_nil, List.contains_cons, List.contains_nil, Nat.reduceBEq, Bool.or_false, Bool.or_true, Bool.true_or, BEq.rfl, finV_take (α := Given) (sz := 7) rfl, take_row, bR, Nat.reduceEqDiff, reduceIte, Int.reduceBNe, Int.reduceBEq]
      · simp [dropO, onlyO, AO.only, e_only]
      · simp only [fgt, dropO, List.filter_cons, List.filter_nil, List.contains_cons, List.contains_nil, Nat.reduceBEq, Bool.or_false, Bool.or_true, Bool.true_or, BEq.rfl, AV.only, e_only, bR, Nat.reduceEqDiff, reduceIte, Int.reduceBNe, Int.reduceBEq]
        refine .done (hK _ ?_); clear hK K; simp only [thenQ, blockQ]
        refine AW.ret ?_
        simp only [blockQ, thenQ, bR, Nat.reduceEqDiff, reduceIte, Int.reduceBNe, Int.reduceBEq]
        simp only [e_fin, bR, Nat.reduceEqDiff, reduceIte, Int.reduceBNe, Int.reduceBEq]
        simp [ownersOf, hw, hr, possG_owners]
end Go.Proofs.Ytkjkbpgdpnapfaa

/-
  FUNCTIONS OF mark BY CONTRACT: arePlaces, list; of cmp and slices: Compare.
-/
namespace Go.Proofs.Ytkjkbpgdpnapfaa
open Go Go.Abs
open Go.Abs.Enc (enc)
theorem F123 (x : Int) : Ctr Try.prog 123 [enc x] (enc false) := by
  refine Ctr.mk' Try.func123 ca123 cc123 cr123 (Nat.le_of_ble_eq_true rfl) (fun hwf W0 D0 E1 => ?_)
  simp only [c123, r123, idx, Nat.zero_add, Nat.reduceAdd]
  refine AW.seq (AW.reg cd123_0 fun K hK => ?_)
  simp only [g123_0, bR, Nat.reduceEqDiff, reduceIte, Int.reduceBNe, Int.reduceBEq]
  refine .done (hK _ ?_); clear hK K; simp only [thenQ, blockQ]
  refine AW.seq (AW.reg cd123_1 fun K hK => ?_)
  simp only [g123_1, bR, Nat.reduceEqDiff, reduceIte, Int.reduceBNe, Int.reduceBEq]
  refine .done (hK _ ?_); clear hK K; simp only [thenQ, blockQ]
  refine AW.ret ?_
  simp only [blockQ, thenQ, bR, Nat.reduceEqDiff, reduceIte, Int.reduceBNe, Int.reduceBEq]
  simp
def cmpI (x y : Int) : Int := if x < y then -1 else if y < x then 1 else 0
theorem F106 (x y : Int) : Ctr Try.prog 106 [enc x, enc y] (enc (cmpI x y)) := by
  refine Ctr.mk' Try.func106 ca106 cc106 cr106 (Nat.le_of_ble_eq_true rfl) (fun hwf W0 D0 E1 => ?_)
  simp only [c106, r106, idx, Nat.zero_add, Nat.reduceAdd]
  refine AW.seq (AW.reg cd106_0 fun K hK => ?_)
  simp only [g106_0, bR, Nat.reduceEqDiff, reduceIte, Int.reduceBNe, Int.reduceBEq]
  refine .done (hK _ ?_); clear hK K; simp only [thenQ, blockQ]
  refine AW.seq (AW.reg cd106_1 fun K hK => ?_)
  simp only [g106_1, bR, Nat.reduceEqDiff, reduceIte, Int.reduceBNe, Int.reduceBEq]
  refine .flat _ (F123 x) rfl ?_
  try simp only [typR, useR, okR, e_fin, bR, Nat.reduceEqDiff, reduceIte, Int.reduceBNe, Int.reduceBEq]
  refine .done (hK _ ?_); clear hK K; simp only [thenQ, blockQ]
  refine AW.seq (AW.reg cd106_2 fun K hK => ?_)
  simp only [g106_2, bR, Nat.reduceEqDiff, reduceIte, Int.reduceBNe, Int.reduceBEq]
  refine .flat _ (F123 y) rfl ?_
  try simp only [typR, useR, okR, e_fin, bR, Nat.reduceEqDiff, reduceIte, Int.reduceBNe, Int.reduceBEq]
  refine .done (hK _ ?_); clear hK K; simp only [thenQ, blockQ]
  refine AW.seq ?_
  refine AW.seq (AW.reg cd106_3 fun K hK => ?_)
  simp only [g106_3, bR, Nat.reduceEqDiff, reduceIte, Int.reduceBNe, Int.reduceBEq]
  refine .done (hK _ ?_); clear hK K; simp only [thenQ, blockQ]
  refine AW.ite ?_
  simp only [condQ, bR, Nat.reduceEqDiff, reduceIte, Int.reduceBNe, Int.reduceBEq]
  refine ⟨fun h => ?_, fun h => ?_⟩
  · cases h
  refine AW.skip ?_; simp only [thenQ, blockQ, reduceIte, Nat.reduceEqDiff]
  refine AW.seq ?_
  refine AW.seq (AW.reg cd106_7 fun K hK => ?_)
  simp only [g106_7, bR, Nat.reduceEqDiff, reduceIte, Int.reduceBNe, Int.reduceBEq]
  refine .done (hK _ ?_); clear hK K; simp only [thenQ, blockQ]
  refine AW.ite ?_
  simp only [condQ, bR, Nat.reduceEqDiff, reduceIte, Int.reduceBNe, Int.reduceBEq]
  refine ⟨fun h => ?_, fun h => ?_⟩
  · cases h
  refine AW.skip ?_; simp only [thenQ, blockQ, reduceIte, Nat.reduceEqDiff]
  refine AW.seq ?_
  refine AW.seq (AW.reg cd106_9 fun K hK => ?_)
  simp only [g106_9, bR, Nat.reduceEqDiff, reduceIte, Int.reduceBNe, Int.reduceBEq]
  refine .done (hK _ ?_); clear hK K; simp only [thenQ, blockQ]
  refine AW.ite ?_
  simp only [condQ, bR, Nat.reduceEqDiff, reduceIte, Int.reduceBNe, Int.reduceBEq]
  refine ⟨fun h => ?_, fun h => ?_⟩
  · refine AW.seq (AW.reg cd106_10 fun K hK => ?_)
    simp only [g106_10, bR, Nat.reduceEqDiff, reduceIte, Int.reduceBNe, Int.reduceBEq]
    refine .done (hK _ ?_); clear hK K; simp only [thenQ, blockQ]
    refine AW.ret ?_
    simp only [blockQ, thenQ, bR, Nat.reduceEqDiff, reduceIte, Int.reduceBNe, Int.reduceBEq]
    have : x < y := by simpa using h
    simp [cmpI, this, e_int]
  have h1 : ¬ x < y := by simpa using h
  refine AW.skip ?_; simp only [thenQ, blockQ, reduceIte, Nat.reduceEqDiff]
  refine AW.seq ?_
  refine AW.seq (AW.reg cd106_11 fun K hK => ?_)
  simp only [g106_11, bR, Nat.reduceEqDiff, reduceIte, Int.reduceBNe, Int.reduceBEq]
  refine .done (hK _ ?_); clear hK K; simp only [thenQ, blockQ]
  refine AW.ite ?_
  simp only [condQ, bR, Nat.reduceEqDiff, reduceIte, Int.reduceBNe, Int.reduceBEq]
  refine ⟨fun h => ?_, fun h => ?_⟩
  · refine AW.seq (AW.reg cd106_12 fun K hK => ?_)
    simp only [g106_12, bR, Nat.reduceEqDiff, reduceIte, Int.reduceBNe, Int.reduceBEq]
    refine .done (hK _ ?_); clear hK K; simp only [thenQ, blockQ]
    refine AW.ret ?_
    simp only [blockQ, thenQ, bR, Nat.reduceEqDiff, reduceIte, Int.reduceBNe, Int.reduceBEq]
    have : y < x := by simpa using h
    simp [cmpI, this, h1, e_int]
  have h2 : ¬ y < x := by simpa using h
  refine AW.skip ?_; simp only [thenQ, blockQ, reduceIte, Nat.reduceEqDiff]
  refine AW.seq (AW.reg cd106_13 fun K hK => ?_)
  simp only [g106_13, bR, Nat.reduceEqDiff, reduceIte, Int.reduceBNe, Int.reduceBEq]
  refine .done (hK _ ?_); clear hK K; simp only [thenQ, blockQ]
  refine AW.ret ?_
  simp only [blockQ, thenQ, bR, Nat.reduceEqDiff, reduceIte, Int.reduceBNe, Int.reduceBEq]
  simp [cmpI, h1, h2, e_int]
def cmpL : List Int → List Int → Int
  | [], [] => 0
  | [], _ :: _ => -1
  | _ :: _, [] => 1
  | a :: x, b :: y => if cmpI a b = 0 then cmpL x y else cmpI a b
theorem cmpL_drop {a b : List Int} {i : Nat} (ha : i < a.length) (hb : i < b.length) : cmpL (a.drop i) (b.drop i) = if cmpI (a.getD i 0) (b.getD i 0) = 0 then cmpL (a.drop (i + 1)) (b.drop (i + 1)) else cmpI (a.getD i 0) (b.getD i 0) := by
  rw [List.drop_eq_getElem_cons ha, List.drop_eq_getElem_cons hb]
  simp only [cmpL, List.getD_eq_getElem?_getD, List.getElem?_eq_getElem ha, List.getElem?_eq_getElem hb, Option.getD_some]
theorem F66 (a b : List Int) : Ctr Try.prog 66 [enc a, enc b] (enc (cmpL a b)) := by
  refine Ctr.mk' Try.func66 ca66 cc66 cr66 (Nat.le_of_ble_eq_true rfl) (fun hwf W0 D0 E1 => ?_)
  simp only [c66, r66, idx, Nat.zero_add, Nat.reduceAdd]
  have hlen : a.length ≤ maxLen := ((wf_list a).1 hwf.1).1
  have hlen2 : b.length ≤ maxLen := ((wf_list b).1 hwf.2.1).1
  simp only [maxLen] at hlen hlen2
  refine AW.seq (AW.reg cd66_0 fun K hK => ?_)
  simp only [g66_0, bR, Nat.reduceEqDiff, reduceIte, Int.reduceBNe, Int.reduceBEq]
  refine .done (hK _ ?_); clear hK K; simp only [thenQ, blockQ]
  refine AW.seq ?_
  refine AW.seq (AW.reg cd66_1 fun K hK => ?_)
  simp only [g66_1, bR, Nat.reduceEqDiff, reduceIte, Int.reduceBNe, Int.reduceBEq]
  try simp only [typR, useR, okR, e_fin, bR, Nat.reduceEqDiff, reduceIte, Int.reduceBNe, Int.reduceBEq]
  refine .done (hK _ ?_); clear hK K; simp only [thenQ, blockQ]
  refine AW.block (AW.loop (fun i : Nat => mkA [(0, enc a), (1, enc b), (9, enc a), (10, .int .i64 a.length), (11, .int .i64 i)] []) (fun i => i ≤ a.length ∧ i ≤ b.length ∧ cmpL a b = cmpL (a.drop i) (b.drop i)) (fun i => a.length - i) 0 ⟨by omega, by omega, rfl⟩ ?_ (fun i hi => ?_))
  · refine Sub.of_lists ?_ ?_ ?_ ?_ <;> simp [subT, subO, onlyT, onlyO, isIn, look_cons, lookO_cons, lookO_nil, AV.only, AV.onlys, AO.only, onlys_map, onlys_append, e_only, e_int, e_bool]
  obtain ⟨hi1, hi2, hi3⟩ := hi
  refine AW.seq (AW.reg cd66_2 fun K hK => ?_)
  simp only [g66_2, bR, Nat.reduceEqDiff, reduceIte, Int.reduceBNe, Int.reduceBEq]
  refine .done (hK _ ?_); clear hK K; simp only [thenQ, blockQ]
  refine AW.seq ?_
  refine AW.ite ?_
  simp only [condQ, bR, Nat.reduceEqDiff, reduceIte, Int.reduceBNe, Int.reduceBEq]
  refine ⟨fun h => ?_, fun h => ?_⟩
  case refine_2.refine_2 =>
    have hge : i = a.length := by simp at h; omega
    subst hge
    refine AW.exit ?_; simp only [thenQ, blockQ, reduceIte, Nat.reduceEqDiff]
    refine AW.seq ?_
    refine AW.seq (AW.reg cd66_11 fun K hK => ?_)
    simp only [g66_11, bR, Nat.reduceEqDiff, reduceIte, Int.reduceBNe, Int.reduceBEq]
    try simp only [typR, useR, okR, e_fin, bR, Nat.reduceEqDiff, reduceIte, Int.reduceBNe, Int.reduceBEq]
    refine .done (hK _ ?_); clear hK K; simp only [thenQ, blockQ]
    rw [List.drop_length] at hi3
    refine AW.ite ?_
    simp only [condQ, bR, Nat.reduceEqDiff, reduceIte, Int.reduceBNe, Int.reduceBEq]
    refine ⟨fun h => ?_, fun h => ?_⟩
    · refine AW.seq (AW.reg cd66_12 fun K hK => ?_)
      simp only [g66_12, bR, Nat.reduceEqDiff, reduceIte, Int.reduceBNe, Int.reduceBEq]
      refine .done (hK _ ?_); clear hK K; simp only [thenQ, blockQ]
      refine AW.ret ?_
      simp only [blockQ, thenQ, bR, Nat.reduceEqDiff, reduceIte, Int.reduceBNe, Int.reduceBEq]
      have hlt : a.length < b.length := by simp at h; omega
      rw [hi3, List.drop_eq_getElem_cons hlt]
      rfl
    · refine AW.skip ?_; simp only [thenQ, blockQ, reduceIte, Nat.reduceEqDiff]
      refine AW.seq (AW.reg cd66_13 fun K hK => ?_)
      simp only [g66_13, bR, Nat.reduceEqDiff, reduceIte, Int.reduceBNe, Int.reduceBEq]
      refine .done (hK _ ?_); clear hK K; simp only [thenQ, blockQ]
      refine AW.ret ?_
      simp only [blockQ, thenQ, bR, Nat.reduceEqDiff, reduceIte, Int.reduceBNe, Int.reduceBEq]
      have hge : b.length ≤ a.length := by simp at h; omega
      rw [hi3, List.drop_of_length_le hge]
      rfl
  have hlt : i < a.length := by simp at h; omega
  refine AW.skip ?_; simp only [thenQ, blockQ, reduceIte, Nat.reduceEqDiff]
  refine AW.seq (AW.block ?_)
  refine AW.seq (AW.reg cd66_3 fun K hK => ?_)
  simp only [g66_3, bR, Nat.reduceEqDiff, reduceIte, Int.reduceBNe, Int.reduceBEq]
  simp only [typR, useR, okR, isE_getD hlt, bR, Nat.reduceEqDiff, reduceIte, Int.reduceBNe, Int.reduceBEq]
  refine .done (hK _ ?_); clear hK K; simp only [thenQ, blockQ]
  refine AW.seq ?_
  refine AW.seq (AW.reg cd66_4 fun K hK => ?_)
  simp only [g66_4, bR, Nat.reduceEqDiff, reduceIte, Int.reduceBNe, Int.reduceBEq]
  try simp only [typR, useR, okR, e_fin, bR, Nat.reduceEqDiff, reduceIte, Int.reduceBNe, Int.reduceBEq]
  refine .done (hK _ ?_); clear hK K; simp only [thenQ, blockQ]
  refine AW.ite ?_
  simp only [condQ, bR, Nat.reduceEqDiff, reduceIte, Int.reduceBNe, Int.reduceBEq]
  refine ⟨fun h => ?_, fun h => ?_⟩
  · have hge : i = b.length := by simp at h; omega
    refine AW.seq (AW.reg cd66_5 fun K hK => ?_)
    simp only [g66_5, bR, Nat.reduceEqDiff, reduceIte, Int.reduceBNe, Int.reduceBEq]
    refine .done (hK _ ?_); clear hK K; simp only [thenQ, blockQ]
    refine AW.ret ?_
    simp only [blockQ, thenQ, bR, Nat.reduceEqDiff, reduceIte, Int.reduceBNe, Int.reduceBEq]
    rw [hi3, List.drop_of_length_le (l := b) (by omega), List.drop_eq_getElem_cons hlt]
    rfl
  have hlb : i < b.length := by simp at h; omega
  refine AW.skip ?_; simp only [thenQ, blockQ, reduceIte, Nat.reduceEqDiff]
  refine AW.seq (AW.reg cd66_6 fun K hK => ?_)
  simp only [g66_6, bR, Nat.reduceEqDiff, reduceIte, Int.reduceBNe, Int.reduceBEq]
  simp only [typR, useR, okR, isE_getD hlb, bR, Nat.reduceEqDiff, reduceIte, Int.reduceBNe, Int.reduceBEq]
  refine .done (hK _ ?_); clear hK K; simp only [thenQ, blockQ]
  refine AW.seq (AW.reg cd66_7 fun K hK => ?_)
  simp only [g66_7, bR, Nat.reduceEqDiff, reduceIte, Int.reduceBNe, Int.reduceBEq]
  try simp only [typR, useR, okR, e_fin, bR, Nat.reduceEqDiff, reduceIte, Int.reduceBNe, Int.reduceBEq]
  refine .flat _ (F106 (a.getD i 0) (b.getD i 0)) rfl ?_
  try simp only [typR, useR, okR, e_fin, bR, Nat.reduceEqDiff, reduceIte, Int.reduceBNe, Int.reduceBEq]
  refine .done (hK _ ?_); clear hK K; simp only [thenQ, blockQ]
  refine AW.seq (AW.reg cd66_8 fun K hK => ?_)
  simp only [g66_8, bR, Nat.reduceEqDiff, reduceIte, Int.reduceBNe, Int.reduceBEq]
  refine .done (hK _ ?_); clear hK K; simp only [thenQ, blockQ]
  rw [cmpL_drop hlt hlb] at hi3
  refine AW.ite ?_
  simp only [condQ, bR, Nat.reduceEqDiff, reduceIte, Int.reduceBNe, Int.reduceBEq]
  refine ⟨fun h => ?_, fun h => ?_⟩
  · refine AW.seq (AW.reg cd66_9 fun K hK => ?_)
    simp only [g66_9, bR, Nat.reduceEqDiff, reduceIte, Int.reduceBNe, Int.reduceBEq]
    refine .done (hK _ ?_); clear hK K; simp only [thenQ, blockQ]
    refine AW.ret ?_
    simp only [blockQ, thenQ, bR, Nat.reduceEqDiff, reduceIte, Int.reduceBNe, Int.reduceBEq]
    have : cmpI (a.getD i 0) (b.getD i 0) ≠ 0 := by simpa using h
    rw [hi3, if_neg this]
  · have : cmpI (a.getD i 0) (b.getD i 0) = 0 := by simpa using h
    refine AW.skip ?_; simp only [thenQ, blockQ, reduceIte, Nat.reduceEqDiff]
    refine AW.reg cd66_10 fun K hK => ?_
    simp only [g66_10, bR, Nat.reduceEqDiff, reduceIte, Int.reduceBNe, Int.reduceBEq]
    refine .done (hK _ ?_); clear hK K; simp only [thenQ, blockQ]
    refine ⟨i + 1, ⟨by omega, by omega, by rw [hi3, if_pos this]⟩, by omega, ?_⟩
    rw [wrap_id _ (by omega) (by omega)]
    refine Sub.of_lists ?_ ?_ ?_ ?_ <;> simp [subT, subO, onlyT, onlyO, isIn, look_cons, lookO_cons, lookO_nil, AV.only, AV.onlys, AO.only, onlys_map, onlys_append, e_only, e_int, e_bool]
end Go.Proofs.Ytkjkbpgdpnapfaa

/-
  FUNCTIONS OF mark BY CONTRACT: settles.
-/
namespace Go.Proofs.Ytkjkbpgdpnapfaa
open Go Go.Abs
open Go.Abs.Enc (enc)
def gl (l : List Given) (i : Nat) : Given := l.getD i g0
theorem isE_gl {A : AState} {l : List Given} {i : Nat} (h : i < l.length) : isE A 7 (i : Int) (enc l) = some (.ref (enc (gl l i))) := by
  rw [isE_nat 7 h rfl]; simp [gl, List.getD_eq_getElem?_getD, h]
theorem gl_eq {l : List Given} {i : Nat} (h : i < l.length) : l[i] = gl l i := by simp [gl, List.getD_eq_getElem?_getD, h]
theorem gl_take {l : List Given} {i j : Nat} (h : j < i) (hi : i ≤ l.length) : gl (l.take i) j = gl l j := by
  simp [gl, List.getD_eq_getElem?_getD, List.getElem?_take, h]
/-- At these places any two of the given marks stand apart. -/
def apartIn (w : Arr 5 Int) (places : List Int) (g h : Given) : Bool := places.any fun k => apartAt w g.mark h.mark k.toNat
def settledAt (w : Arr 5 Int) (l : List Given) (places : List Int) (i : Nat) : Bool := (List.range i).all fun j => apartIn w places (gl l i) (gl l j)
def settled (w : Arr 5 Int) (l : List Given) (places : List Int) : Bool := (List.range l.length).all (settledAt w l places)
theorem F67 (w : Arr 5 Int) (l : List Given) (places : List Int) (hl : ∀ g ∈ l, okMark g.mark = true) (hp : ∀ k ∈ places, 0 ≤ k ∧ k < 6) : Ctr Try.prog 67 [enc w, enc l, enc places] (enc (settled w l places)) := by
  refine Ctr.mk' Try.func67 ca67 cc67 cr67 (Nat.le_of_ble_eq_true rfl) (fun hwf W0 D0 E1 => ?_)
  simp only [c67, r67, idx, Nat.zero_add, Nat.reduceAdd]
  have hlen : l.length ≤ maxLen := ((wf_list l).1 hwf.2.1).1
  simp only [maxLen] at hlen
  have hok : ∀ i, i < l.length → okMark (gl l i).mark = true := fun i hi => by rw [← gl_eq hi]; exact hl _ (List.getElem_mem hi)
  refine AW.seq (AW.reg cd67_0 fun K hK => ?_)
  simp only [g67_0, bR, Nat.reduceEqDiff, reduceIte, Int.reduceBNe, Int.reduceBEq]
  refine .done (hK _ ?_); clear hK K; simp only [thenQ, blockQ]
  refine AW.seq ?_
  refine AW.seq (AW.reg cd67_1 fun K hK => ?_)
  simp only [g67_1, bR, Nat.reduceEqDiff, reduceIte, Int.reduceBNe, Int.reduceBEq]
  try simp only [typR, useR, okR, e_fin, bR, Nat.reduceEqDiff, reduceIte, Int.reduceBNe, Int.reduceBEq]
  refine .done (hK _ ?_); clear hK K; simp only [thenQ, blockQ]
  refine AW.block (AW.loop (fun i : Nat => mkA [(1, enc l), (2, enc places), (3, .ptr 3 []), (11, enc l), (12, .int .i64 l.length), (13, .int .i64 i)] [(3, .box (enc w))]) (fun i => i ≤ l.length ∧ ∀ j, j < i → settledAt w l places j = true) (fun i => l.length - i) 0 ⟨by omega, fun k h => by omega⟩ ?_ (fun i hi => ?_))
  · refine Sub.of_lists ?_ ?_ ?_ ?_ <;> simp [subT, subO, onlyT, onlyO, isIn, look_cons, lookO_cons, lookO_nil, AV.only, AV.onlys, AO.only, onlys_map, onlys_append, e_only, e_int, e_bool]
  refine AW.seq (AW.reg cd67_2 fun K hK => ?_)
  simp only [g67_2, bR, Nat.reduceEqDiff, reduceIte, Int.reduceBNe, Int.reduceBEq]
  refine .done (hK _ ?_); clear hK K; simp only [thenQ, blockQ]
  refine AW.seq ?_
  refine AW.ite ?_
  simp only [condQ, bR, Nat.reduceEqDiff, reduceIte, Int.reduceBNe, Int.reduceBEq]
  refine ⟨fun h => ?_, fun h => ?_⟩
  case refine_2.refine_2 =>
    have hge : i = l.length := by simp at h; omega
    subst hge
    refine AW.exit ?_; simp only [thenQ, blockQ, reduceIte, Nat.reduceEqDiff]
    refine AW.seq (AW.reg cd67_11 fun K hK => ?_)
    simp only [g67_11, bR, Nat.reduceEqDiff, reduceIte, Int.reduceBNe, Int.reduceBEq]
    refine .done (hK _ ?_); clear hK K; simp only [thenQ, blockQ]
    refine AW.ret ?_
    simp only [blockQ, thenQ, bR, Nat.reduceEqDiff, reduceIte, Int.reduceBNe, Int.reduceBEq]
    rw [settled, all_true hi.2]
  have hlt : i < l.length := by simpa using h
  have bad : settledAt w l places i = false → settled w l places = false := fun h => all_false i hlt h
  refine AW.skip ?_; simp only [thenQ, blockQ, reduceIte, Nat.reduceEqDiff]
  refine AW.seq (AW.block ?_)
  refine AW.seq (AW.reg cd67_3 fun K hK => ?_)
  simp only [g67_3, bR, Nat.reduceEqDiff, reduceIte, Int.reduceBNe, Int.reduceBEq]
  simp only [typR, useR, okR, isE_gl hlt, e_a6, bR, Nat.reduceEqDiff, reduceIte, Int.reduceBNe, Int.reduceBEq]
  rw [stR3_ok (e_isVal _) (by rw [e_okS]; rfl) ((e_sh _).trans rfl)]
  simp only [setAt_nil, bR, Nat.reduceEqDiff, reduceIte, Int.reduceBNe, Int.reduceBEq]
  refine .done (hK _ ?_); clear hK K; simp only [thenQ, blockQ]
  refine AW.seq (AW.reg cd67_4 fun K hK => ?_)
  simp only [g67_4, bR, Nat.reduceEqDiff, reduceIte, Int.reduceBNe, Int.reduceBEq]
  simp only [slE_take (α := Given) 7 (show i ≤ l.length by omega) rfl, Option.map_none, bR, Nat.reduceEqDiff, reduceIte, Int.reduceBNe, Int.reduceBEq]
  try simp only [typR, useR, okR, e_fin, bR, Nat.reduceEqDiff, reduceIte, Int.reduceBNe, Int.reduceBEq]
  refine .done (hK _ ?_); clear hK K; simp only [thenQ, blockQ]
  have hti : (l.take i).length = i := by rw [List.length_take]; omega
  simp only [hti]
  refine AW.block (AW.loop (fun j : Nat => mkA [(1, enc l), (2, enc places), (3, .ptr 3 []), (8, .ptr 8 []), (11, enc l), (12, .int .i64 l.length), (13, .int .i64 i), (20, enc (l.take i)), (21, .int .i64 i), (22, .int .i64 j)] [(3, .box (enc w)), (8, .box (enc (gl l i)))]) (fun j => j ≤ i ∧ ∀ k, k < j → apartIn w places (gl l i) (gl l k) = true) (fun j => i - j) 0 ⟨by omega, fun k h => by omega⟩ ?_ (fun j hj => ?_))
  · refine Sub.of_lists ?_ ?_ ?_ ?_ <;> simp [subT, subO, onlyT, onlyO, isIn, look_cons, lookO_cons, lookO_nil, AV.only, AV.onlys, AO.only, onlys_map, onlys_append, e_only, e_int, e_bool]
  refine AW.seq (AW.reg cd67_5 fun K hK => ?_)
  simp only [g67_5, bR, Nat.reduceEqDiff, reduceIte, Int.reduceBNe, Int.reduceBEq]
  refine .done (hK _ ?_); clear hK K; simp only [thenQ, blockQ]
  refine AW.seq ?_
  refine AW.ite ?_
  simp only [condQ, bR, Nat.reduceEqDiff, reduceIte, Int.reduceBNe, Int.reduceBEq]
  refine ⟨fun h => ?_, fun h => ?_⟩
  case refine_2.refine_2 =>
    have hge : j = i := by simp at h; omega
    subst hge
    refine AW.exit ?_; simp only [thenQ, blockQ, reduceIte, Nat.reduceEqDiff]
    refine AW.reg cd67_10 fun K hK => ?_
    simp only [g67_10, bR, Nat.reduceEqDiff, reduceIte, Int.reduceBNe, Int.reduceBEq]
    refine .done (hK _ ?_); clear hK K; simp only [thenQ, blockQ]
    refine ⟨j + 1, ⟨by omega, fun k hk => ?_⟩, by omega, ?_⟩
    · rcases Nat.lt_or_ge k j with h1 | h1
      · exact hi.2 k h1
      · have : k = j := by omega
        subst this
        exact all_true hj.2
    · rw [wrap_id _ (by omega) (by omega)]
      refine Sub.of_lists ?_ ?_ ?_ ?_ <;> simp [subT, subO, onlyT, onlyO, isIn, look_cons, lookO_cons, lookO_nil, AV.only, AV.onlys, AO.only, onlys_map, onlys_append, e_only, e_int, e_bool]
  have hjl : j < i := by simp at h; omega
  have bad2 : apartIn w places (gl l i) (gl l j) = false → settledAt w l places i = false := fun h => all_false j hjl h
  refine AW.skip ?_; simp only [thenQ, blockQ, reduceIte, Nat.reduceEqDiff]
  refine AW.seq (AW.block ?_)
  refine AW.seq (AW.reg cd67_6 fun K hK => ?_)
  simp only [g67_6, bR, Nat.reduceEqDiff, reduceIte, Int.reduceBNe, Int.reduceBEq]
  try simp only [typR, useR, okR, isE_gl (show j < (l.take i).length by omega), gl_take hjl (show i ≤ l.length by omega), e_a6, bR, Nat.reduceEqDiff, reduceIte, Int.reduceBNe, Int.reduceBEq]
  rw [stR3_ok (e_isVal _) (by rw [e_okS]; rfl) ((e_sh _).trans rfl)]
  simp only [setAt_nil, bR, Nat.reduceEqDiff, reduceIte, Int.reduceBNe, Int.reduceBEq]
  refine .done (hK _ ?_); clear hK K; simp only [thenQ, blockQ]
  refine AW.seq ?_
  refine AW.reg cd67_7 fun K hK => ?_
  simp only [g67_7, bR, Nat.reduceEqDiff, reduceIte, Int.reduceBNe, Int.reduceBEq]
  simp only [List.all_cons, List.all_nil, AV.isVal, Bool.and_true, Bool.and_self, if_true, e_isVal, e_closed, e_fin, bR, Nat.reduceEqDiff, reduceIte, Int.reduceBNe, Int.reduceBEq]
  try simp only [typR, useR, okR, e_fin, bR, Nat.reduceEqDiff, reduceIte, Int.reduceBNe, Int.reduceBEq]
  refine .flat _ (F75 places 107 [.ref (enc w), .ref (enc (gl l i)), .ref (enc (gl l j))] ?_ (fun k => apartAt w (gl l i).mark (gl l j).mark k.toNat) (fun k hk => ?_)) rfl ?_
  · simp [AV.dones, AV.done, Enc.done, e_closed]
  · have hk2 := hp k hk
    have := F107 w (gl l i) (gl l j) k.toNat (by omega) (hok i hlt) (hok j (by omega))
    rwa [show ((k.toNat : Nat) : Int) = k by omega] at this
  try simp only [typR, useR, okR, e_fin, bR, Nat.reduceEqDiff, reduceIte, Int.reduceBNe, Int.reduceBEq]
  refine .done (hK _ ?_); clear hK K; simp only [thenQ, blockQ]
  refine AW.ite ?_
  simp only [condQ, bR, Nat.reduceEqDiff, reduceIte, Int.reduceBNe, Int.reduceBEq]
  refine ⟨fun h => ?_, fun h => ?_⟩
  · refine AW.seq (AW.reg cd67_8 fun K hK => ?_)
    simp only [g67_8, bR, Nat.reduceEqDiff, reduceIte, Int.reduceBNe, Int.reduceBEq]
    refine .done (hK _ ?_); clear hK K; simp only [thenQ, blockQ]
    refine AW.ret ?_
    simp only [blockQ, thenQ, bR, Nat.reduceEqDiff, reduceIte, Int.reduceBNe, Int.reduceBEq]
    have h1 : apartIn w places (gl l i) (gl l j) = false := by simpa [apartIn] using h
    rw [bad (bad2 h1)]
  · refine AW.skip ?_; simp only [thenQ, blockQ, reduceIte, Nat.reduceEqDiff]
    have h1 : apartIn w places (gl l i) (gl l j) = true := by simpa [apartIn] using h
    refine AW.reg cd67_9 fun K hK => ?_
    simp only [g67_9, bR, Nat.reduceEqDiff, reduceIte, Int.reduceBNe, Int.reduceBEq]
    refine .done (hK _ ?_); clear hK K; simp only [thenQ, blockQ]
    refine ⟨j + 1, ⟨by omega, fun k hk => ?_⟩, by omega, ?_⟩
    · rcases Nat.lt_or_ge k j with h2 | h2
      · exact hj.2 k h2
      · have : k = j := by omega
        subst this; exact h1
    · rw [wrap_id _ (by omega) (by omega)]
      refine Sub.of_lists ?_ ?_ ?_ ?_ <;> simp [subT, subO, onlyT, onlyO, isIn, look_cons, lookO_cons, lookO_nil, AV.only, AV.onlys, AO.only, onlys_map, onlys_append, e_only, e_int, e_bool]
end Go.Proofs.Ytkjkbpgdpnapfaa

/-
  FUNCTIONS OF mark BY CONTRACT: Look.
-/
namespace Go.Proofs.Ytkjkbpgdpnapfaa
open Go Go.Abs
open Go.Abs.Enc (enc)
def bitsOf (s : Nat) : Nat → List Int
  | 0 => []
  | i + 1 => bitsOf s i ++ if hasB s i then [(i : Int)] else []
theorem bitsOf_le (s : Nat) : ∀ i, (bitsOf s i).length ≤ i
  | 0 => Nat.le_refl _
  | i + 1 => by
    have := bitsOf_le s i
    simp only [bitsOf, List.length_append]
    split <;> simp <;> omega
theorem bitsOf_in (s : Nat) : ∀ i, i ≤ 6 → ∀ k ∈ bitsOf s i, 0 ≤ k ∧ k < 6
  | 0, _ => by simp [bitsOf]
  | i + 1, h => by
    intro k hk
    simp only [bitsOf, List.mem_append] at hk
    rcases hk with hk | hk
    · exact bitsOf_in s i (by omega) k hk
    · split at hk
      · simp only [List.mem_singleton] at hk; omega
      · cases hk
def better (found : Bool) (best set : List Int) : Bool := (!found || decide ((set.length : Int) < best.length)) || (((set.length : Int) == best.length) && decide (cmpL set best < 0))
def lookStep (w : Arr 5 Int) (poss : List Given) (p : List Int × Bool) (s : Nat) : List Int × Bool := if better p.2 p.1 (bitsOf s 6) && settled w poss (bitsOf s 6) then (bitsOf s 6, true) else p
def lookUp (w : Arr 5 Int) (poss : List Given) : Nat → List Int × Bool
  | 0 => ([], false)
  | s + 1 => lookStep w poss (lookUp w poss s) s
def lookOf (m : Marks) (r : Arr 6 Int) : List Int × Int := if okM m then (if okReading r then ((lookUp m.wear (possG m r) 64).1, 0) else ([], 12)) else ([], 13)
theorem lookUp_le (w : Arr 5 Int) (poss : List Given) : ∀ s, (lookUp w poss s).1.length ≤ 6
  | 0 => by simp [lookUp]
  | s + 1 => by
    have := lookUp_le w poss s
    have h2 := bitsOf_le s 6
    simp only [lookUp, lookStep]
    split
    · exact h2
    · exact this
theorem possG_mem {m : Marks} {r : Arr 6 Int} {g : Given} (h : g ∈ possG m r) : g ∈ m.given := (List.mem_filter.1 h).1
theorem F12 (m : Marks) (r : Arr 6 Int) : Ctr Try.prog 12 [enc m, enc r] (.tuple [enc (lookOf m r).1, enc (lookOf m r).2]) := by
  refine Ctr.mk' Try.func12 ca12 cc12 cr12 (Nat.le_of_ble_eq_true rfl) (fun hwf W0 D0 E1 => ?_)
  simp only [c12, r12, idx, Nat.zero_add, Nat.reduceAdd]
  refine AW.seq (AW.reg cd12_0 fun K hK => ?_)
  simp only [g12_0, bR, Nat.reduceEqDiff, reduceIte, Int.reduceBNe, Int.reduceBEq]
  simp only [e_isVal, bR, Nat.reduceEqDiff, reduceIte, Int.reduceBNe, Int.reduceBEq]
  refine .done (hK _ ?_); clear hK K; simp only [thenQ, blockQ]
  refine AW.seq ?_
  refine AW.seq (AW.reg cd12_1 fun K hK => ?_)
  simp only [g12_1, bR, Nat.reduceEqDiff, reduceIte, Int.reduceBNe, Int.reduceBEq]
  simp only [typR, useR, okR, e_fin, bR, Nat.reduceEqDiff, reduceIte, Int.reduceBNe, Int.reduceBEq]
  refine .flat _ (F47 m) rfl ?_
  simp only [typR, useR, okR, e_fin, bR, Nat.reduceEqDiff, reduceIte, Int.reduceBNe, Int.reduceBEq]
  refine .flat _ (F45 r) rfl ?_
  simp only [typR, useR, okR, e_fin, bs2, bR, Nat.reduceEqDiff, reduceIte, Int.reduceBNe, Int.reduceBEq]
  refine .flat _ (F64 _) rfl ?_
  rw [first2 _ _ 13 12 (by decide) (by decide)]
  simp only [bR, Nat.reduceEqDiff, reduceIte, Int.reduceBNe, Int.reduceBEq]
  refine .done (hK _ ?_); clear hK K; simp only [thenQ, blockQ]
  generalize hw : okM m = bw
  generalize hr : okReading r = br
  cases bw
  · refine AW.seq (AW.reg cd12_2 fun K hK => ?_)
    simp only [g12_2, bR, Nat.reduceEqDiff, reduceIte, Int.reduceBNe, Int.reduceBEq]
    refine .done (hK _ ?_); clear hK K; simp only [thenQ, blockQ]
    refine AW.ite ?_
    simp only [condQ, bR, Nat.reduceEqDiff, reduceIte, Int.reduceBNe, Int.reduceBEq]
    refine ⟨fun h => ?_, fun h => ?_⟩
    · refine AW.seq (AW.reg cd12_3 fun K hK => ?_)
      simp only [g12_3, bR, Nat.reduceEqDiff, reduceIte, Int.reduceBNe, Int.reduceBEq]
      refine .done (hK _ ?_); clear hK K; simp only [thenQ, blockQ]
      refine AW.ret ?_
      simp only [blockQ, thenQ, bR, Nat.reduceEqDiff, reduceIte, Int.reduceBNe, Int.reduceBEq]
      simp [lookOf, hw, nilInt]
    · cases h
  cases br
  · refine AW.seq (AW.reg cd12_2 fun K hK => ?_)
    simp only [g12_2, bR, Nat.reduceEqDiff, reduceIte, Int.reduceBNe, Int.reduceBEq]
    refine .done (hK _ ?_); clear hK K; simp only [thenQ, blockQ]
    refine AW.ite ?_
    simp only [condQ, bR, Nat.reduceEqDiff, reduceIte, Int.reduceBNe, Int.reduceBEq]
    refine ⟨fun h => ?_, fun h => ?_⟩
    · refine AW.seq (AW.reg cd12_3 fun K hK => ?_)
      simp only [g12_3, bR, Nat.reduceEqDiff, reduceIte, Int.reduceBNe, Int.reduceBEq]
      refine .done (hK _ ?_); clear hK K; simp only [thenQ, blockQ]
      refine AW.ret ?_
      simp only [blockQ, thenQ, bR, Nat.reduceEqDiff, reduceIte, Int.reduceBNe, Int.reduceBEq]
      simp [lookOf, hw, hr, nilInt]
    · cases h
  refine AW.seq (AW.reg cd12_2 fun K hK => ?_)
  simp only [g12_2, bR, Nat.reduceEqDiff, reduceIte, Int.reduceBNe, Int.reduceBEq]
  refine .done (hK _ ?_); clear hK K; simp only [thenQ, blockQ]
  refine AW.ite ?_
  simp only [condQ, bR, Nat.reduceEqDiff, reduceIte, Int.reduceBNe, Int.reduceBEq]
  refine ⟨fun h => ?_, fun h => ?_⟩
  · cases h
  refine AW.skip ?_; simp only [thenQ, blockQ, reduceIte, Nat.reduceEqDiff]
  have hlen : m.given.length ≤ 1000 := by have := okM_len hw; omega
  have hpl : (possG m r).length ≤ 1000 := Nat.le_trans (List.length_filter_le _ _) hlen
  have hpm : ∀ g ∈ possG m r, okMark g.mark = true := fun g hg => okM_mark hw g (possG_mem hg)
  obtain ⟨poss, hposs⟩ : ∃ poss, poss = possG m r := ⟨_, rfl⟩
  -- what follows, from the possible ones on
  have key : ∀ c : Ctx, c = ⟨Try.prog, W0, D0, Try.f12.ntmps, ownE E1, E1, noY, none⟩ → AW c (.seq (.reg d12_5 g12_5) (.seq (.reg d12_6 g12_6) (.seq (.seq (.reg d12_7 g12_7) (.block 0 (.loop (.seq (.reg d12_8 g12_8) (.seq (.cond (.t 27) .skip (.exit 0)) (.seq (.block 1 (.seq (.reg d12_9 g12_9) (.seq (.reg d12_10 g12_10) (.seq (.seq (.reg d12_11 g12_11) (.block 2 (.loop (.seq (.reg d12_12 g12_12) (.seq (.cond (.t 30) .skip (.exit 2)) (.seq (.block 3 (.seq (.reg d12_13 g12_13) (.seq (.reg d12_14 g12_14) (.cond (.t 36) (.reg d12_15 g12_15) .skip)))) (.reg d12_16 g12_16))))))) (.seq (.reg d12_17 g12_17) (.seq (.reg d12_18 g12_18) (.cond (.t 71) (.reg d12_19 g12_19) .skip))))))) (.reg d12_20 g12_20))))))) (.seq (.reg d12_21 g12_21) .ret))))
      (retQ [.tmp 4, .tmp 5] (.tuple [enc (lookOf m r).1, enc (lookOf m r).2])) (mkA [(2, .ptr 2 []), (3, .ptr 3 []), (7, enc poss)] [(2, .box (enc m)), (3, .box (enc r))]) := by
    rintro c rfl
    refine AW.seq (AW.reg cd12_5 fun K hK => ?_)
    simp only [g12_5, bR, Nat.reduceEqDiff, reduceIte, Int.reduceBNe, Int.reduceBEq]
    refine .done (hK _ ?_); clear hK K; simp only [thenQ, blockQ]
    refine AW.seq (AW.reg cd12_6 fun K hK => ?_)
    simp only [g12_6, bR, Nat.reduceEqDiff, reduceIte, Int.reduceBNe, Int.reduceBEq]
    refine .done (hK _ ?_); clear hK K; simp only [thenQ, blockQ]
    refine AW.seq ?_
    refine AW.seq (AW.reg cd12_7 fun K hK => ?_)
    simp only [g12_7, bR, Nat.reduceEqDiff, reduceIte, Int.reduceBNe, Int.reduceBEq]
    refine .done (hK _ ?_); clear hK K; simp only [thenQ, blockQ]
    refine AW.block (AW.loop (fun s : Nat => mkA [(2, .ptr 2 []), (3, .ptr 3 []), (7, enc poss), (8, enc (lookUp m.wear poss s).1), (9, .bool (lookUp m.wear poss s).2), (26, .int .i64 s)] [(2, .box (enc m)), (3, .box (enc r))]) (fun s => s ≤ 64) (fun s => 64 - s) 0 (by omega) ?_ (fun s hs => ?_))
    · simp only [lookUp]
      refine Sub.freeL (y := .slice 1 []) [] 8 rfl rfl ?_ ?_ ?_ ?_ ?_
      · simp [dropO, onlyO, AO.only, e_only]
      · simp [subT, fgt, look_cons, AV.only, e_only]; rfl
      · simp [subO, dropO, lookO_cons]
      · simp [onlyT, isIn, lookO_cons, AV.only, e_only]
      · simp [onlyO, AO.only, e_only]
    obtain ⟨best, hbest⟩ : ∃ best, (lookUp m.wear poss s).1 = best := ⟨_, rfl⟩
    obtain ⟨found, hfound⟩ : ∃ found, (lookUp m.wear poss s).2 = found := ⟨_, rfl⟩
    have hlu : lookUp m.wear poss s = (best, found) := by rw [← hbest, ← hfound]
    have hbl : best.length ≤ 6 := by rw [← hbest]; exact lookUp_le _ _ _
    rw [hbest, hfound]
    refine AW.seq (AW.reg cd12_8 fun K hK => ?_)
    simp only [g12_8, bR, Nat.reduceEqDiff, reduceIte, Int.reduceBNe, Int.reduceBEq]
    refine .done (hK _ ?_); clear hK K; simp only [thenQ, blockQ]
    refine AW.seq ?_
    refine AW.ite ?_
    simp only [condQ, bR, Nat.reduceEqDiff, reduceIte, Int.reduceBNe, Int.reduceBEq]
    refine ⟨fun h => ?_, fun h => ?_⟩
    case refine_2.refine_2 =>
      have hge : s = 64 := by simp at h; omega
      subst hge
      refine AW.exit ?_; simp only [thenQ, blockQ, reduceIte, Nat.reduceEqDiff]
      refine AW.seq (AW.reg cd12_21 fun K hK => ?_)
      simp only [g12_21, bR, Nat.reduceEqDiff, reduceIte, Int.reduceBNe, Int.reduceBEq]
      refine .done (hK _ ?_); clear hK K; simp only [thenQ, blockQ]
      refine AW.ret ?_
      simp only [blockQ, thenQ, bR, Nat.reduceEqDiff, reduceIte, Int.reduceBNe, Int.reduceBEq]
      simp only [e_fin, bR, Nat.reduceEqDiff, reduceIte, Int.reduceBNe, Int.reduceBEq]
      simp [lookOf, hw, hr, hlu, ← hposs, e_int]
    have hlt : s < 64 := by simp at h; omega
    refine AW.skip ?_; simp only [thenQ, blockQ, reduceIte, Nat.reduceEqDiff]
    refine AW.seq (AW.block ?_)
    refine AW.seq (AW.reg cd12_9 fun K hK => ?_)
    simp only [g12_9, bR, Nat.reduceEqDiff, reduceIte, Int.reduceBNe, Int.reduceBEq]
    refine .done (hK _ ?_); clear hK K; simp only [thenQ, blockQ]
    refine AW.seq (AW.reg cd12_10 fun K hK => ?_)
    simp only [g12_10, bR, Nat.reduceEqDiff, reduceIte, Int.reduceBNe, Int.reduceBEq]
    refine .done (hK _ ?_); clear hK K; simp only [thenQ, blockQ]
    refine AW.seq ?_
    refine AW.seq (AW.reg cd12_11 fun K hK => ?_)
    simp only [g12_11, bR, Nat.reduceEqDiff, reduceIte, Int.reduceBNe, Int.reduceBEq]
    refine .done (hK _ ?_); clear hK K; simp only [thenQ, blockQ]
    refine AW.block (AW.loop (fun i : Nat => mkA [(2, .ptr 2 []), (3, .ptr 3 []), (7, enc poss), (8, enc best), (9, .bool found), (10, .int .i64 s), (26, .int .i64 s), (11, .own 11 (bitsOf s i).length), (29, .int .i64 i)] [(11, .row 3 1 ((bitsOf s i).map enc)), (2, .box (enc m)), (3, .box (enc r))]) (fun i => i ≤ 6) (fun i => 6 - i) 0 (by omega) ?_ (fun i hi => ?_))
    · refine Sub.adoptL 11 11 3 1 1 ?_ ?_ ?_
      · simp only [absR, Nat.reduceEqDiff, reduceIte]
      · simp only [absR, Nat.reduceEqDiff, reduceIte]
      · simp only [bitsOf, List.map_nil, List.length_nil]
        refine Sub.of_lists ?_ ?_ ?_ ?_ <;> simp [subT, subO, onlyT, onlyO, isIn, look_cons, lookO_cons, lookO_nil, AV.only, AV.onlys, AO.only, onlys_map, onlys_append, e_only, e_int, e_bool]
    refine AW.seq (AW.reg cd12_12 fun K hK => ?_)
    simp only [g12_12, bR, Nat.reduceEqDiff, reduceIte, Int.reduceBNe, Int.reduceBEq]
    refine .done (hK _ ?_); clear hK K; simp only [thenQ, blockQ]
    refine AW.seq ?_
    refine AW.ite ?_
    simp only [condQ, bR, Nat.reduceEqDiff, reduceIte, Int.reduceBNe, Int.reduceBEq]
    refine ⟨fun h => ?_, fun h => ?_⟩
    · have hi6 : i < 6 := by simp at h; omega
      have hml := bitsOf_le s i
      refine AW.skip ?_; simp only [thenQ, blockQ, reduceIte, Nat.reduceEqDiff]
      refine AW.seq (AW.block ?_)
      refine AW.seq (AW.reg cd12_13 fun K hK => ?_)
      simp only [g12_13, bR, Nat.reduceEqDiff, reduceIte, Int.reduceBNe, Int.reduceBEq]
      refine .done (hK _ ?_); clear hK K; simp only [thenQ, blockQ]
      refine AW.seq (AW.reg cd12_14 fun K hK => ?_)
      simp only [g12_14, bR, Nat.reduceEqDiff, reduceIte, Int.reduceBNe, Int.reduceBEq]
      refine .done (hK _ ?_); clear hK K; simp only [thenQ, blockQ]
      refine AW.ite ?_
      simp only [condQ, bR, Nat.reduceEqDiff, reduceIte, Int.reduceBNe, Int.reduceBEq]
      refine ⟨fun h => ?_, fun h => ?_⟩
      · have hb : hasB s i = true := h
        refine AW.reg cd12_15 fun K hK => ?_
        simp only [g12_15, bR, Nat.reduceEqDiff, reduceIte, Int.reduceBNe, Int.reduceBEq]
        rw [appR3_enc 3 1 8 11 rfl rfl (by simp) (by simp [maxLen]; omega) (by simp; omega)]
        simp only [bR, Nat.reduceEqDiff, reduceIte, Int.reduceBNe, Int.reduceBEq]
        refine .done (hK _ ?_); clear hK K; simp only [thenQ, blockQ]
        refine AW.reg cd12_16 fun K hK => ?_
        simp only [g12_16, bR, Nat.reduceEqDiff, reduceIte, Int.reduceBNe, Int.reduceBEq]
        refine .done (hK _ ?_); clear hK K; simp only [thenQ, blockQ]
        refine ⟨i + 1, by omega, by omega, ?_⟩
        rw [wrap_id _ (by omega) (by omega)]
        simp only [bitsOf, hb, reduceIte]
        refine Sub.of_lists ?_ ?_ ?_ ?_ <;> simp [subT, subO, onlyT, onlyO, isIn, look_cons, lookO_cons, lookO_nil, AV.only, AV.onlys, AO.only, onlys_map, onlys_append, e_only, e_int, e_bool]
      · have hb : hasB s i = false := h
        refine AW.skip ?_; simp only [thenQ, blockQ, reduceIte, Nat.reduceEqDiff]
        refine AW.reg cd12_16 fun K hK => ?_
        simp only [g12_16, bR, Nat.reduceEqDiff, reduceIte, Int.reduceBNe, Int.reduceBEq]
        refine .done (hK _ ?_); clear hK K; simp only [thenQ, blockQ]
        refine ⟨i + 1, by omega, by omega, ?_⟩
        rw [wrap_id _ (by omega) (by omega)]
        simp only [bitsOf, hb, reduceIte, Bool.false_eq_true, List.append_nil]
        refine Sub.of_lists ?_ ?_ ?_ ?_ <;> simp [subT, subO, onlyT, onlyO, isIn, look_cons, lookO_cons, lookO_nil, AV.only, AV.onlys, AO.only, onlys_map, onlys_append, e_only, e_int, e_bool]
    have hi6 : i = 6 := by simp at h; omega
    subst hi6
    refine AW.exit ?_; simp only [thenQ, blockQ, reduceIte, Nat.reduceEqDiff]
    have hset := bitsOf_in s 6 (Nat.le_refl _)
    have hsl := bitsOf_le s 6
    have hstep : lookUp m.wear poss (s + 1) = lookStep m.wear poss (best, found) s := by rw [lookUp, hlu]
    obtain ⟨set, hsetd⟩ : ∃ set, bitsOf s 6 = set := ⟨_, rfl⟩
    simp only [lookStep, hsetd] at hstep
    rw [hsetd] at hset hsl ⊢
    refine AW.sub (B := mkA [(2, .ptr 2 []), (3, .ptr 3 []), (7, enc poss), (8, enc best), (9, .bool found), (11, enc set), (26, .int .i64 s)] [(2, .box (enc m)), (3, .box (enc r))]) (Sub.freeL (y := enc set) [11] 11 (by simp only [bR, Nat.reduceEqDiff, reduceIte, Int.reduceBNe, Int.reduceBEq]; rfl) ?_ ?_ ?_ ?_ ?_ ?_) ?_
    · simp only [keepO, List.filter_cons, List.filter_nil, List.contains_cons, List.contains_nil, Nat.reduceBEq, Bool.or_false, Bool.or_true, Bool.true_or, BEq.rfl, bR, Nat.reduceEqDiff, reduceIte, Int.reduceBNe, Int.reduceBEq]
    · simp [dropO, onlyO, AO.only, e_only]
    · simp [subT, fgt, look_cons, AV.only, e_only]
    · simp [subO, dropO, lookO_cons]
    · simp [onlyT, isIn, lookO_cons, AV.only, e_only]
    · simp [onlyO, AO.only, e_only]
    refine AW.seq (AW.via (mkA [(13, .bool (better found best set)), (2, .ptr 2 []), (3, .ptr 3 []), (7, enc poss), (8, enc best), (9, .bool found), (11, enc set), (26, .int .i64 s)] [(2, .box (enc m)), (3, .box (enc r))]) ?_ fun B hB => ?_)
    · refine AW.reg cd12_17 fun K hK => ?_
      simp only [g12_17, bR, Nat.reduceEqDiff, reduceIte, Int.reduceBNe, Int.reduceBEq]
      cases found
      · try simp only [typR, useR, okR, e_fin, bR, Nat.reduceEqDiff, reduceIte, Int.reduceBNe, Int.reduceBEq]
        refine .done (hK _ ?_); clear hK K; simp only [thenQ, blockQ]
        simp only [better, Bool.not_false, Bool.true_or]
        refine Sub.of_lists ?_ ?_ ?_ ?_ <;> simp [subT, subO, onlyT, onlyO, isIn, look_cons, lookO_cons, lookO_nil, AV.only, AV.onlys, AO.only, onlys_map, onlys_append, e_only, e_int, e_bool]
      try simp only [typR, useR, okR, e_fin, bR, Nat.reduceEqDiff, reduceIte, Int.reduceBNe, Int.reduceBEq]
      generalize hb1 : decide ((set.length : Int) < best.length) = b1
      cases b1
      · try simp only [typR, useR, okR, e_fin, bR, Nat.reduceEqDiff, reduceIte, Int.reduceBNe, Int.reduceBEq]
        generalize hb2 : ((set.length : Int) == best.length) = b2
        cases b2
        · try simp only [typR, useR, okR, e_fin, bR, Nat.reduceEqDiff, reduceIte, Int.reduceBNe, Int.reduceBEq]
          refine .done (hK _ ?_); clear hK K; simp only [thenQ, blockQ]
          simp only [better, hb1, hb2, Bool.not_true, Bool.false_or, Bool.or_false, Bool.false_and]
          refine Sub.of_lists ?_ ?_ ?_ ?_ <;> simp [subT, subO, onlyT, onlyO, isIn, look_cons, lookO_cons, lookO_nil, AV.only, AV.onlys, AO.only, onlys_map, onlys_append, e_only, e_int, e_bool]
        try simp only [typR, useR, okR, e_fin, bR, Nat.reduceEqDiff, reduceIte, Int.reduceBNe, Int.reduceBEq]
        refine .flat _ (F66 set best) rfl ?_
        try simp only [typR, useR, okR, e_fin, bR, Nat.reduceEqDiff, reduceIte, Int.reduceBNe, Int.reduceBEq]
        refine .done (hK _ ?_); clear hK K; simp only [thenQ, blockQ]
        simp only [better, hb1, hb2, Bool.not_true, Bool.false_or, Bool.or_false, Bool.true_and]
        refine Sub.of_lists ?_ ?_ ?_ ?_ <;> simp [subT, subO, onlyT, onlyO, isIn, look_cons, lookO_cons, lookO_nil, AV.only, AV.onlys, AO.only, onlys_map, onlys_append, e_only, e_int, e_bool]
      · try simp only [typR, useR, okR, e_fin, bR, Nat.reduceEqDiff, reduceIte, Int.reduceBNe, Int.reduceBEq]
        refine .done (hK _ ?_); clear hK K; simp only [thenQ, blockQ]
        simp only [better, hb1, Bool.not_true, Bool.false_or, Bool.true_or]
        refine Sub.of_lists ?_ ?_ ?_ ?_ <;> simp [subT, subO, onlyT, onlyO, isIn, look_cons, lookO_cons, lookO_nil, AV.only, AV.onlys, AO.only, onlys_map, onlys_append, e_only, e_int, e_bool]
    simp only [thenQ, blockQ]
    refine AW.sub hB ?_
    generalize hbt : better found best set = bt at hstep
    refine AW.seq (AW.reg cd12_18 fun K hK => ?_)
    simp only [g12_18, bR, Nat.reduceEqDiff, reduceIte, Int.reduceBNe, Int.reduceBEq]
    cases bt
    · try simp only [typR, useR, okR, e_fin, bR, Nat.reduceEqDiff, reduceIte, Int.reduceBNe, Int.reduceBEq]
      refine .done (hK _ ?_); clear hK K; simp only [thenQ, blockQ]
      refine AW.ite ?_
      simp only [condQ, bR, Nat.reduceEqDiff, reduceIte, Int.reduceBNe, Int.reduceBEq]
      refine ⟨fun h => ?_, fun h => ?_⟩
      · cases h
      refine AW.skip ?_; simp only [thenQ, blockQ, reduceIte, Nat.reduceEqDiff]
      refine AW.reg cd12_20 fun K hK => ?_
      simp only [g12_20, bR, Nat.reduceEqDiff, reduceIte, Int.reduceBNe, Int.reduceBEq]
      refine .done (hK _ ?_); clear hK K; simp only [thenQ, blockQ]
      refine ⟨s + 1, by omega, by omega, ?_⟩
      rw [hstep, wrap_id _ (by omega) (by omega)]
      simp only [Bool.false_and, Bool.false_eq_true, if_false]
      refine Sub.of_lists ?_ ?_ ?_ ?_ <;> simp [subT, subO, onlyT, onlyO, isIn, look_cons, lookO_cons, lookO_nil, AV.only, AV.onlys, AO.only, onlys_map, onlys_append, e_only, e_int, e_bool]
    · try simp only [typR, useR, okR, e_fin, bR, Nat.reduceEqDiff, reduceIte, Int.reduceBNe, Int.reduceBEq]
      refine .flat _ (F67 m.wear poss set (by rw [hposs]; exact hpm) hset) rfl ?_
      try simp only [typR, useR, okR, e_fin, bR, Nat.reduceEqDiff, reduceIte, Int.reduceBNe, Int.reduceBEq]
      refine .done (hK _ ?_); clear hK K; simp only [thenQ, blockQ]
      refine AW.ite ?_
      simp only [condQ, bR, Nat.reduceEqDiff, reduceIte, Int.reduceBNe, Int.reduceBEq]
      refine ⟨fun h => ?_, fun h => ?_⟩
      · refine AW.reg cd12_19 fun K hK => ?_
        simp only [g12_19, bR, Nat.reduceEqDiff, reduceIte, Int.reduceBNe, Int.reduceBEq]
        refine .done (hK _ ?_); clear hK K; simp only [thenQ, blockQ]
        refine AW.reg cd12_20 fun K hK => ?_
        simp only [g12_20, bR, Nat.reduceEqDiff, reduceIte, Int.reduceBNe, Int.reduceBEq]
        refine .done (hK _ ?_); clear hK K; simp only [thenQ, blockQ]
        refine ⟨s + 1, by omega, by omega, ?_⟩
        rw [hstep, wrap_id _ (by omega) (by omega)]
        have h' : settled m.wear poss set = true := h
        simp only [h', Bool.true_and, if_true]
        refine Sub.of_lists ?_ ?_ ?_ ?_ <;> simp [subT, subO, onlyT, onlyO, isIn, look_cons, lookO_cons, lookO_nil, AV.only, AV.onlys, AO.only, onlys_map, onlys_append, e_only, e_int, e_bool]
      · refine AW.skip ?_; simp only [thenQ, blockQ, reduceIte, Nat.reduceEqDiff]
        refine AW.reg cd12_20 fun K hK => ?_
        simp only [g12_20, bR, Nat.reduceEqDiff, reduceIte, Int.reduceBNe, Int.reduceBEq]
        refine .done (hK _ ?_); clear hK K; simp only [thenQ, blockQ]
        refine ⟨s + 1, by omega, by omega, ?_⟩
        rw [hstep, wrap_id _ (by omega) (by omega)]
        have h' : settled m.wear poss set = false := h
        simp only [h', Bool.true_and, Bool.false_eq_true, if_false]
        refine Sub.of_lists ?_ ?_ ?_ ?_ <;> simp [subT, subO, onlyT, onlyO, isIn, look_cons, lookO_cons, lookO_nil, AV.only, AV.onlys, AO.only, onlys_map, onlys_append, e_only, e_int, e_bool]
  refine AW.seq (AW.reg cd12_4 fun K hK => ?_)
  simp only [g12_4, bR, Nat.reduceEqDiff, reduceIte, Int.reduceBNe, Int.reduceBEq]
  simp only [typR, useR, okR, e_fin, bR, Nat.reduceEqDiff, reduceIte, Int.reduceBNe, Int.reduceBEq]
  refine .obj false [(7, 25)] [] [enc m, enc r] (possPost 7 m r) rfl (F65 m r (okM_mark hw) hlen) Gvn.nil ⟨.inl ⟨(e_ren _ _).symm, e_only _ _, e_isVal _⟩, .inl ⟨(e_ren _ _).symm, e_only _ _, e_isVal _⟩, trivial⟩ ?_ ?_
  · rintro x os' (⟨_, rfl, rfl⟩ | ⟨k, rfl, rfl⟩)
    · exact Bck.nil (fun _ => rfl) (fun h => by cases h)
    · exact Bck.new1 (fun p => map_only p _) (fun h => by cases h) rfl (fun h => by cases h) rfl (by decide)
  · rintro x os' (⟨hp, rfl, rfl⟩ | ⟨k, rfl, rfl⟩)
    · simp only [e_ren, renR, List.nil_append, e_fin, bR, Nat.reduceEqDiff, reduceIte, Int.reduceBNe, Int.reduceBEq]
      refine .done (hK _ ?_); clear hK K; simp only [thenQ, blockQ]
      refine AW.sub ?_ (key _ rfl)
      rw [hposs, hp]
      refine Sub.of_lists ?_ ?_ ?_ ?_ <;> simp [subT, subO, onlyT, onlyO, isIn, look_cons, lookO_cons, lookO_nil, AV.only, AV.onlys, AO.only, onlys_map, onlys_append, e_only, e_int, e_bool]
    · simp only [rowG, renR, rens_map_enc, List.cons_append, List.nil_append, bR, Nat.reduceEqDiff, reduceIte, Int.reduceBNe, Int.reduceBEq]
      refine .done (hK _ ?_); clear hK K; simp only [thenQ, blockQ]
      refine AW.sub (Sub.freeL (y := enc poss) [25] 7 rfl ?_ ?_ ?_ ?_ ?_ ?_) (key _ rfl)
      · simp only [keepO, List.filter_cons, List.filter_nil, List.contains_cons, List.contains_nil, Nat.reduceBEq, Bool.or_false, Bool.or_true, Bool.true_or, BEq.rfl, finV_take (α := Given) (sz := 7) rfl, take_row, hposs, bR, Nat.reduceEqDiff, reduceIte, Int.reduceBNe, Int.reduceBEq]
      · simp [dropO, onlyO, AO.only, e_only]
      · simp [subT, fgt, look_cons, AV.only]
      · simp [subO, dropO, lookO_cons]
      · simp [onlyT, isIn, lookO_cons, AV.only, e_only]
      · simp [onlyO, AO.only, e_only]
end Go.Proofs.Ytkjkbpgdpnapfaa

/-
  FUNCTIONS OF mark BY CONTRACT: arePlaces, list.
-/
namespace Go.Proofs.Ytkjkbpgdpnapfaa
open Go Go.Abs
open Go.Abs.Enc (enc)
theorem F71 (l : List Int) : Ctr Try.prog 71 [enc l] (enc (okPlaces l)) := by
  refine Ctr.mk' Try.func71 ca71 cc71 cr71 (Nat.le_of_ble_eq_true rfl) (fun hwf W0 D0 E1 => ?_)
  simp only [c71, r71, idx, Nat.zero_add, Nat.reduceAdd]
  have hlen : l.length ≤ maxLen := ((wf_list l).1 hwf.1).1
  simp only [maxLen] at hlen
  refine AW.seq (AW.reg cd71_0 fun K hK => ?_)
  simp only [g71_0, bR, Nat.reduceEqDiff, reduceIte, Int.reduceBNe, Int.reduceBEq]
  refine .done (hK _ ?_); clear hK K; simp only [thenQ, blockQ]
  refine AW.seq ?_
  refine AW.seq (AW.reg cd71_1 fun K hK => ?_)
  simp only [g71_1, bR, Nat.reduceEqDiff, reduceIte, Int.reduceBNe, Int.reduceBEq]
  try simp only [typR, useR, okR, e_fin, bR, Nat.reduceEqDiff, reduceIte, Int.reduceBNe, Int.reduceBEq]
  refine .done (hK _ ?_); clear hK K; simp only [thenQ, blockQ]
  refine AW.block (AW.loop (fun i : Nat => mkA [(0, enc l), (5, enc l), (6, .int .i64 l.length), (7, .int .i64 i)] []) (fun i => i ≤ l.length ∧ ∀ j, j < i → placeAt l j = true) (fun i => l.length - i) 0 ⟨by omega, fun k h => by omega⟩ ?_ (fun i hi => ?_))
  · refine Sub.of_lists ?_ ?_ ?_ ?_ <;> simp [subT, subO, onlyT, onlyO, isIn, look_cons, lookO_cons, lookO_nil, AV.only, AV.onlys, AO.only, onlys_map, onlys_append, e_only, e_int, e_bool]
  refine AW.seq (AW.reg cd71_2 fun K hK => ?_)
  simp only [g71_2, bR, Nat.reduceEqDiff, reduceIte, Int.reduceBNe, Int.reduceBEq]
  refine .done (hK _ ?_); clear hK K; simp only [thenQ, blockQ]
  refine AW.seq ?_
  refine AW.ite ?_
  simp only [condQ, bR, Nat.reduceEqDiff, reduceIte, Int.reduceBNe, Int.reduceBEq]
  refine ⟨fun h => ?_, fun h => ?_⟩
  case refine_2.refine_2 =>
    have hge : i = l.length := by simp at h; omega
    subst hge
    refine AW.exit ?_; simp only [thenQ, blockQ, reduceIte, Nat.reduceEqDiff]
    refine AW.seq (AW.reg cd71_7 fun K hK => ?_)
    simp only [g71_7, bR, Nat.reduceEqDiff, reduceIte, Int.reduceBNe, Int.reduceBEq]
    refine .done (hK _ ?_); clear hK K; simp only [thenQ, blockQ]
    refine AW.ret ?_
    simp only [blockQ, thenQ, bR, Nat.reduceEqDiff, reduceIte, Int.reduceBNe, Int.reduceBEq]
    rw [okPlaces, all_true hi.2]
  have hlt : i < l.length := by simpa using h
  have bad : placeAt l i = false → okPlaces l = false := fun h => all_false i hlt h
  refine AW.skip ?_; simp only [thenQ, blockQ, reduceIte, Nat.reduceEqDiff]
  refine AW.seq (AW.block ?_)
  refine AW.seq (AW.reg cd71_3 fun K hK => ?_)
  simp only [g71_3, bR, Nat.reduceEqDiff, reduceIte, Int.reduceBNe, Int.reduceBEq]
  simp only [typR, useR, okR, isE_getD hlt, bR, Nat.reduceEqDiff, reduceIte, Int.reduceBNe, Int.reduceBEq]
  refine .done (hK _ ?_); clear hK K; simp only [thenQ, blockQ]
  refine AW.seq (AW.reg cd71_4 fun K hK => ?_)
  simp only [g71_4, bR, Nat.reduceEqDiff, reduceIte, Int.reduceBNe, Int.reduceBEq]
  try simp only [typR, useR, okR, e_fin, bR, Nat.reduceEqDiff, reduceIte, Int.reduceBNe, Int.reduceBEq]
  refine .flat _ (F89 (l.getD i 0) 0 5) rfl ?_
  generalize hr : inR 0 5 (l.getD i 0) = br
  cases br
  · try simp only [typR, useR, okR, e_fin, bR, Nat.reduceEqDiff, reduceIte, Int.reduceBNe, Int.reduceBEq]
    refine .done (hK _ ?_); clear hK K; simp only [thenQ, blockQ]
    refine AW.ite ?_
    simp only [condQ, bR, Nat.reduceEqDiff, reduceIte, Int.reduceBNe, Int.reduceBEq]
    refine ⟨fun h => ?_, fun h => ?_⟩
    · refine AW.seq (AW.reg cd71_5 fun K hK => ?_)
      simp only [g71_5, bR, Nat.reduceEqDiff, reduceIte, Int.reduceBNe, Int.reduceBEq]
      refine .done (hK _ ?_); clear hK K; simp only [thenQ, blockQ]
      refine AW.ret ?_
      simp only [blockQ, thenQ, bR, Nat.reduceEqDiff, reduceIte, Int.reduceBNe, Int.reduceBEq]
      rw [bad (by simp only [placeAt, hr, Bool.false_and])]
    · cases h
  try simp only [typR, useR, okR, e_fin, bR, Nat.reduceEqDiff, reduceIte, Int.reduceBNe, Int.reduceBEq]
  generalize hz : decide (0 < (i : Int)) = bz
  cases bz
  · have hz' : i = 0 := by simp at hz; omega
    try simp only [typR, useR, okR, e_fin, bR, Nat.reduceEqDiff, reduceIte, Int.reduceBNe, Int.reduceBEq]
    refine .done (hK _ ?_); clear hK K; simp only [thenQ, blockQ]
    refine AW.ite ?_
    simp only [condQ, bR, Nat.reduceEqDiff, reduceIte, Int.reduceBNe, Int.reduceBEq]
    refine ⟨fun h => ?_, fun h => ?_⟩
    · cases h
    refine AW.skip ?_; simp only [thenQ, blockQ, reduceIte, Nat.reduceEqDiff]
    refine AW.reg cd71_6 fun K hK => ?_
    simp only [g71_6, bR, Nat.reduceEqDiff, reduceIte, Int.reduceBNe, Int.reduceBEq]
    refine .done (hK _ ?_); clear hK K; simp only [thenQ, blockQ]
    refine ⟨i + 1, ⟨by omega, fun k hk' => ?_⟩, by omega, ?_⟩
    · by_cases hki : k = i
      · rw [hki, placeAt, hr]; simp [hz']
      · exact hi.2 k (by omega)
    · rw [wrap_id _ (by omega) (by omega)]
      refine Sub.of_lists ?_ ?_ ?_ ?_ <;> simp [subT, subO, onlyT, onlyO, isIn, look_cons, lookO_cons, lookO_nil, AV.only, AV.onlys, AO.only, onlys_map, onlys_append, e_only, e_int, e_bool]
  · have hpos : 0 < i := by simpa using hz
    have hpl : i - 1 < l.length := by omega
    have hpred : IntKind.i64.wrap ((i : Int) - 1) = ((i - 1 : Nat) : Int) := by rw [wrap_id _ (by omega) (by omega)]; omega
    simp only [typR, useR, okR, hpred, isE_getD hpl, isE_getD hlt, bR, Nat.reduceEqDiff, reduceIte, Int.reduceBNe, Int.reduceBEq]
    refine .done (hK _ ?_); clear hK K; simp only [thenQ, blockQ]
    refine AW.ite ?_
    simp only [condQ, bR, Nat.reduceEqDiff, reduceIte, Int.reduceBNe, Int.reduceBEq]
    refine ⟨fun h => ?_, fun h => ?_⟩
    · refine AW.seq (AW.reg cd71_5 fun K hK => ?_)
      simp only [g71_5, bR, Nat.reduceEqDiff, reduceIte, Int.reduceBNe, Int.reduceBEq]
      refine .done (hK _ ?_); clear hK K; simp only [thenQ, blockQ]
      refine AW.ret ?_
      simp only [blockQ, thenQ, bR, Nat.reduceEqDiff, reduceIte, Int.reduceBNe, Int.reduceBEq]
      have : (i == 0 || decide (l.getD (i - 1) 0 < l.getD i 0)) = false := by
        have h1 : l.getD i 0 ≤ l.getD (i - 1) 0 := of_decide_eq_true h
        have h2 : ¬ (l.getD (i - 1) 0 < l.getD i 0) := by omega
        have h3 : ¬ i = 0 := by omega
        simp only [decide_eq_false h2, Bool.or_false, beq_eq_false_iff_ne, ne_eq, h3, not_false_eq_true]
      rw [bad (by simp only [placeAt, this, Bool.and_false])]
    have hprev : (i == 0 || decide (l.getD (i - 1) 0 < l.getD i 0)) = true := by
      have h1 : ¬ (l.getD i 0 ≤ l.getD (i - 1) 0) := of_decide_eq_false h
      have h2 : l.getD (i - 1) 0 < l.getD i 0 := by omega
      simp only [decide_eq_true h2, Bool.or_true]
    refine AW.skip ?_; simp only [thenQ, blockQ, reduceIte, Nat.reduceEqDiff]
    refine AW.reg cd71_6 fun K hK => ?_
    simp only [g71_6, bR, Nat.reduceEqDiff, reduceIte, Int.reduceBNe, Int.reduceBEq]
    refine .done (hK _ ?_); clear hK K; simp only [thenQ, blockQ]
    refine ⟨i + 1, ⟨by omega, fun k hk' => ?_⟩, by omega, ?_⟩
    · by_cases hki : k = i
      · rw [hki, placeAt, hr, hprev]; rfl
      · exact hi.2 k (by omega)
    · rw [wrap_id _ (by omega) (by omega)]
      refine Sub.of_lists ?_ ?_ ?_ ?_ <;> simp [subT, subO, onlyT, onlyO, isIn, look_cons, lookO_cons, lookO_nil, AV.only, AV.onlys, AO.only, onlys_map, onlys_append, e_only, e_int, e_bool]
theorem F81 (w : Int) (h0 : 0 ≤ w) (h1 : w ≤ 31) : Ctr Try.prog 81 [enc w] (enc (members w 5)) := by
  refine Ctr.mk' Try.func81 ca81 cc81 cr81 (Nat.le_of_ble_eq_true rfl) (fun hwf W0 D0 E1 => ?_)
  simp only [c81, r81, idx, Nat.zero_add, Nat.reduceAdd]
  refine AW.seq (AW.reg cd81_0 fun K hK => ?_)
  simp only [g81_0, bR, Nat.reduceEqDiff, reduceIte, Int.reduceBNe, Int.reduceBEq]
  refine .done (hK _ ?_); clear hK K; simp only [thenQ, blockQ]
  refine AW.seq (AW.reg cd81_1 fun K hK => ?_)
  simp only [g81_1, bR, Nat.reduceEqDiff, reduceIte, Int.reduceBNe, Int.reduceBEq]
  refine .done (hK _ ?_); clear hK K; simp only [thenQ, blockQ]
  refine AW.seq ?_
  refine AW.seq (AW.reg cd81_2 fun K hK => ?_)
  simp only [g81_2, bR, Nat.reduceEqDiff, reduceIte, Int.reduceBNe, Int.reduceBEq]
  refine .done (hK _ ?_); clear hK K; simp only [thenQ, blockQ]
  refine AW.block (AW.loop (fun i : Nat => mkA [(0, .int .i64 w), (3, .own 3 (members w i).length), (5, .int .i64 i)] [(3, .row 3 1 ((members w i).map enc))]) (fun i => i ≤ 5) (fun i => 5 - i) 0 (by omega) ?_ (fun i hi => ?_))
  · refine Sub.adoptL 3 3 3 1 1 ?_ ?_ ?_
    · simp only [absR, Nat.reduceEqDiff, reduceIte]
    · simp only [absR]
    · simp only [members, List.map_nil, List.length_nil]
      refine Sub.of_lists ?_ ?_ ?_ ?_ <;> simp [subT, subO, onlyT, onlyO, isIn, look_cons, lookO_cons, lookO_nil, AV.only, AV.onlys, AO.only, onlys_map, onlys_append, e_only, e_int, e_bool]
  refine AW.seq (AW.reg cd81_3 fun K hK => ?_)
  simp only [g81_3, bR, Nat.reduceEqDiff, reduceIte, Int.reduceBNe, Int.reduceBEq]
  refine .done (hK _ ?_); clear hK K; simp only [thenQ, blockQ]
  refine AW.seq ?_
  refine AW.ite ?_
  simp only [condQ, bR, Nat.reduceEqDiff, reduceIte, Int.reduceBNe, Int.reduceBEq]
  refine ⟨fun h => ?_, fun h => ?_⟩
  · have hlt : i < 5 := by simp at h; omega
    have hml := members_le w i
    refine AW.skip ?_; simp only [thenQ, blockQ, reduceIte, Nat.reduceEqDiff]
    refine AW.seq (AW.block ?_)
    refine AW.seq (AW.reg cd81_4 fun K hK => ?_)
    simp only [g81_4, bR, Nat.reduceEqDiff, reduceIte, Int.reduceBNe, Int.reduceBEq]
    refine .done (hK _ ?_); clear hK K; simp only [thenQ, blockQ]
    refine AW.seq ?_
    refine AW.reg cd81_5 fun K hK => ?_
    simp only [g81_5, bR, Nat.reduceEqDiff, reduceIte, Int.reduceBNe, Int.reduceBEq]
    refine .flat _ (F110 w i) rfl ?_
    simp only [has_bit w h0 h1 i hlt]
    try simp only [typR, useR, okR, e_fin, bR, Nat.reduceEqDiff, reduceIte, Int.reduceBNe, Int.reduceBEq]
    refine .done (hK _ ?_); clear hK K; simp only [thenQ, blockQ]
    refine AW.ite ?_
    simp only [condQ, bR, Nat.reduceEqDiff, reduceIte, Int.reduceBNe, Int.reduceBEq]
    refine ⟨fun h => ?_, fun h => ?_⟩
    · have hb : bit w i = true := h
      refine AW.reg cd81_6 fun K hK => ?_
      simp only [g81_6, bR, Nat.reduceEqDiff, reduceIte, Int.reduceBNe, Int.reduceBEq]
      rw [appR3_enc 3 1 8 3 rfl rfl (by simp) (by simp [maxLen]; omega) (by simp; omega)]
      simp only [bR, Nat.reduceEqDiff, reduceIte, Int.reduceBNe, Int.reduceBEq]
      refine .done (hK _ ?_); clear hK K; simp only [thenQ, blockQ]
      refine AW.reg cd81_7 fun K hK => ?_
      simp only [g81_7, bR, Nat.reduceEqDiff, reduceIte, Int.reduceBNe, Int.reduceBEq]
      refine .done (hK _ ?_); clear hK K; simp only [thenQ, blockQ]
      refine ⟨i + 1, by omega, by omega, ?_⟩
      rw [wrap_id _ (by omega) (by omega)]
      simp only [members, hb, reduceIte]
      refine Sub.of_lists ?_ ?_ ?_ ?_ <;> simp [subT, subO, onlyT, onlyO, isIn, look_cons, lookO_cons, lookO_nil, AV.only, AV.onlys, AO.only, onlys_map, onlys_append, e_only, e_int, e_bool]
    · have hb : bit w i = false := h
      refine AW.skip ?_; simp only [thenQ, blockQ, reduceIte, Nat.reduceEqDiff]
      refine AW.reg cd81_7 fun K hK => ?_
      simp only [g81_7, bR, Nat.reduceEqDiff, reduceIte, Int.reduceBNe, Int.reduceBEq]
      refine .done (hK _ ?_); clear hK K; simp only [thenQ, blockQ]
      refine ⟨i + 1, by omega, by omega, ?_⟩
      rw [wrap_id _ (by omega) (by omega)]
      simp only [members, hb, reduceIte, Bool.false_eq_true, List.append_nil]
      refine Sub.of_lists ?_ ?_ ?_ ?_ <;> simp [subT, subO, onlyT, onlyO, isIn, look_cons, lookO_cons, lookO_nil, AV.only, AV.onlys, AO.only, onlys_map, onlys_append, e_only, e_int, e_bool]
  · have hge : i = 5 := by simp at h; omega
    subst hge
    refine AW.exit ?_; simp only [thenQ, blockQ, reduceIte, Nat.reduceEqDiff]
    refine AW.seq (AW.reg cd81_8 fun K hK => ?_)
    simp only [g81_8, bR, Nat.reduceEqDiff, reduceIte, Int.reduceBNe, Int.reduceBEq]
    refine .done (hK _ ?_); clear hK K; simp only [thenQ, blockQ]
    refine AW.ret ?_
    simp only [blockQ, thenQ, bR, Nat.reduceEqDiff, reduceIte, Int.reduceBNe, Int.reduceBEq]
end Go.Proofs.Ytkjkbpgdpnapfaa

/-
  FUNCTIONS OF mark BY CONTRACT: Looked.
-/
namespace Go.Proofs.Ytkjkbpgdpnapfaa
open Go Go.Abs
open Go.Abs.Enc (enc)
theorem okPlaces_in {l : List Int} (h : okPlaces l = true) : ∀ k ∈ l, 0 ≤ k ∧ k < 6 := by
  intro k hk
  simp only [okPlaces, List.all_eq_true, List.mem_range] at h
  obtain ⟨i, hi, rfl⟩ := List.getElem_of_mem hk
  have := h i hi
  simp only [placeAt, inR, List.getD_eq_getElem?_getD, List.getElem?_eq_getElem hi, Option.getD_some, Bool.and_eq_true, decide_eq_true_eq] at this
  omega
theorem F76 (m : Marks) (g : Given) (worn : Arr 6 Int) (k : Nat) (hk : k < 6) (hg : okMark g.mark = true) : Ctr Try.prog 76 (enc (k : Int) :: [.ref (enc m), .ref (enc g), .ref (enc worn)]) (enc (band (m.wear.g (g.mark.g k).toNat) (worn.g k) == 0)) := by
  refine Ctr.mk' Try.func76 ca76 cc76 cr76 (Nat.le_of_ble_eq_true rfl) (fun hwf W0 D0 E1 => ?_)
  simp only [c76, r76, idx, Nat.zero_add, Nat.reduceAdd]
  have h1 := okMark_at hg hk
  refine AW.seq (AW.reg cd76_0 fun K hK => ?_)
  simp only [g76_0, bR, Nat.reduceEqDiff, reduceIte, Int.reduceBNe, Int.reduceBEq]
  refine .done (hK _ ?_); clear hK K; simp only [thenQ, blockQ]
  refine AW.seq (AW.reg cd76_1 fun K hK => ?_)
  simp only [g76_1, bR, Nat.reduceEqDiff, reduceIte, Int.reduceBNe, Int.reduceBEq]
  try simp only [typR, useR, okR, e_fin, bR, Nat.reduceEqDiff, reduceIte, Int.reduceBNe, Int.reduceBEq]
  refine .flat _ (F77 m.wear g.mark k hk h1.1 h1.2) rfl ?_
  simp only [typR, useR, okR, inB_nat 1 worn hk rfl, atL_g worn hk, get_g worn hk, bR, Nat.reduceEqDiff, reduceIte, Int.reduceBNe, Int.reduceBEq]
  refine .flat _ (F78 _ _) rfl ?_
  try simp only [typR, useR, okR, e_fin, bR, Nat.reduceEqDiff, reduceIte, Int.reduceBNe, Int.reduceBEq]
  refine .done (hK _ ?_); clear hK K; simp only [thenQ, blockQ]
  refine AW.ret ?_
  simp only [blockQ, thenQ, bR, Nat.reduceEqDiff, reduceIte, Int.reduceBNe, Int.reduceBEq]
  simp only [bne, Bool.not_not]
def clash (w : Arr 5 Int) (worn : Arr 6 Int) (places : List Int) (g : Given) : Bool := places.any fun k => band (w.g (g.mark.g k.toNat).toNat) (worn.g k.toNat) == 0
theorem F74 (m : Marks) (g : Given) (worn : Arr 6 Int) (places : List Int) (hg : okMark g.mark = true) (hp : ∀ k ∈ places, 0 ≤ k ∧ k < 6) : Ctr Try.prog 74 (enc g :: [.ref (enc places), .ref (enc m), .ref (enc worn)]) (enc (clash m.wear worn places g)) := by
  refine Ctr.mk' Try.func74 ca74 cc74 cr74 (Nat.le_of_ble_eq_true rfl) (fun hwf W0 D0 E1 => ?_)
  simp only [c74, r74, idx, Nat.zero_add, Nat.reduceAdd]
  refine AW.seq (AW.reg cd74_0 fun K hK => ?_)
  simp only [g74_0, bR, Nat.reduceEqDiff, reduceIte, Int.reduceBNe, Int.reduceBEq]
  simp only [e_isVal, bR, Nat.reduceEqDiff, reduceIte, Int.reduceBNe, Int.reduceBEq]
  refine .done (hK _ ?_); clear hK K; simp only [thenQ, blockQ]
  refine AW.seq (AW.reg cd74_1 fun K hK => ?_)
  simp only [g74_1, bR, Nat.reduceEqDiff, reduceIte, Int.reduceBNe, Int.reduceBEq]
  try simp only [typR, useR, okR, e_fin, bR, Nat.reduceEqDiff, reduceIte, Int.reduceBNe, Int.reduceBEq]
  try simp only [List.all_cons, List.all_nil, AV.isVal, Bool.and_true, Bool.and_self, if_true, e_isVal, e_closed, e_fin, bR, Nat.reduceEqDiff, reduceIte, Int.reduceBNe, Int.reduceBEq]
  try simp only [typR, useR, okR, e_fin, bR, Nat.reduceEqDiff, reduceIte, Int.reduceBNe, Int.reduceBEq]
  refine .flat _ (F75 places 76 [.ref (enc m), .ref (enc g), .ref (enc worn)] ?_ (fun k => band (m.wear.g (g.mark.g k.toNat).toNat) (worn.g k.toNat) == 0) (fun k hk => ?_)) rfl ?_
  · simp [AV.dones, AV.done, Enc.done, e_closed]
  · have hk2 := hp k hk
    have := F76 m g worn k.toNat (by omega) hg
    rwa [show ((k.toNat : Nat) : Int) = k by omega] at this
  try simp only [typR, useR, okR, e_fin, bR, Nat.reduceEqDiff, reduceIte, Int.reduceBNe, Int.reduceBEq]
  refine .done (hK _ ?_); clear hK K; simp only [thenQ, blockQ]
  refine AW.ret ?_
  simp only [blockQ, thenQ, bR, Nat.reduceEqDiff, reduceIte, Int.reduceBNe, Int.reduceBEq]
  rfl
def lookedG (m : Marks) (r worn : Arr 6 Int) (places : List Int) : List Given := keep (clash m.wear worn places) (possG m r)
def lookedOf (m : Marks) (r worn : Arr 6 Int) (places : List Int) : List Int × Int :=
  if okM m then (if okReading r then (if okReading worn then (if okPlaces places then ((lookedG m r worn places).map (·.owner), 0) else ([], 18)) else ([], 12)) else ([], 12)) else ([], 13)
theorem F14 (m : Marks) (r worn : Arr 6 Int) (places : List Int) : Ctr Try.prog 14 [enc m, enc r, enc worn, enc places] (.tuple [enc (lookedOf m r worn places).1, enc (lookedOf m r worn places).2]) := by
  refine Ctr.mk' Try.func14 ca14 cc14 cr14 (Nat.le_of_ble_eq_true rfl) (fun hwf W0 D0 E1 => ?_)
  simp only [c14, r14, idx, Nat.zero_add, Nat.reduceAdd]
  refine AW.seq (AW.reg cd14_0 fun K hK => ?_)
  simp only [g14_0, bR, Nat.reduceEqDiff, reduceIte, Int.reduceBNe, Int.reduceBEq]
  simp only [e_isVal, bR, Nat.reduceEqDiff, reduceIte, Int.reduceBNe, Int.reduceBEq]
  refine .done (hK _ ?_); clear hK K; simp only [thenQ, blockQ]
  refine AW.seq ?_
  refine AW.seq (AW.reg cd14_1 fun K hK => ?_)
  simp only [g14_1, bR, Nat.reduceEqDiff, reduceIte, Int.reduceBNe, Int.reduceBEq]
  try simp only [typR, useR, okR, e_fin, bR, Nat.reduceEqDiff, reduceIte, Int.reduceBNe, Int.reduceBEq]
  refine .flat _ (F47 m) rfl ?_
  try simp only [typR, useR, okR, e_fin, bR, Nat.reduceEqDiff, reduceIte, Int.reduceBNe, Int.reduceBEq]
  refine .flat _ (F45 r) rfl ?_
  try simp only [typR, useR, okR, e_fin, bR, Nat.reduceEqDiff, reduceIte, Int.reduceBNe, Int.reduceBEq]
  refine .flat _ (F45 worn) rfl ?_
  simp only [typR, useR, okR, e_fin, bs3, bR, Nat.reduceEqDiff, reduceIte, Int.reduceBNe, Int.reduceBEq]
  refine .flat _ (F64 _) rfl ?_
  rw [first3 _ _ _ 13 12 12 (by decide) (by decide) (by decide)]
  simp only [bR, Nat.reduceEqDiff, reduceIte, Int.reduceBNe, Int.reduceBEq]
  refine .done (hK _ ?_); clear hK K; simp only [thenQ, blockQ]
  generalize hw : okM m = bw
  generalize hr : okReading r = br
  generalize hwo : okReading worn = bwo
  cases bw
  · refine AW.seq (AW.reg cd14_2 fun K hK => ?_)
    simp only [g14_2, bR, Nat.reduceEqDiff, reduceIte, Int.reduceBNe, Int.reduceBEq]
    refine .done (hK _ ?_); clear hK K; simp only [thenQ, blockQ]
    refine AW.ite ?_
    simp only [condQ, bR, Nat.reduceEqDiff, reduceIte, Int.reduceBNe, Int.reduceBEq]
    refine ⟨fun h => ?_, fun h => ?_⟩
    · refine AW.seq (AW.reg cd14_3 fun K hK => ?_)
      simp only [g14_3, bR, Nat.reduceEqDiff, reduceIte, Int.reduceBNe, Int.reduceBEq]
      refine .done (hK _ ?_); clear hK K; simp only [thenQ, blockQ]
      refine AW.ret ?_
      simp only [blockQ, thenQ, bR, Nat.reduceEqDiff, reduceIte, Int.reduceBNe, Int.reduceBEq]
      simp [lookedOf, hw, nilInt]
    · cases h
  cases br
  · refine AW.seq (AW.reg cd14_2 fun K hK => ?_)
    simp only [g14_2, bR, Nat.reduceEqDiff, reduceIte, Int.reduceBNe, Int.reduceBEq]
    refine .done (hK _ ?_); clear hK K; simp only [thenQ, blockQ]
    refine AW.ite ?_
    simp only [condQ, bR, Nat.reduceEqDiff, reduceIte, Int.reduceBNe, Int.reduceBEq]
    refine ⟨fun h => ?_, fun h => ?_⟩
    · refine AW.seq (AW.reg cd14_3 fun K hK => ?_)
      simp only [g14_3, bR, Nat.reduceEqDiff, reduceIte, Int.reduceBNe, Int.reduceBEq]
      refine .done (hK _ ?_); clear hK K; simp only [thenQ, blockQ]
      refine AW.ret ?_
      simp only [blockQ, thenQ, bR, Nat.reduceEqDiff, reduceIte, Int.reduceBNe, Int.reduceBEq]
      simp [lookedOf, hw, hr, nilInt]
    · cases h
  cases bwo
  · refine AW.seq (AW.reg cd14_2 fun K hK => ?_)
    simp only [g14_2, bR, Nat.reduceEqDiff, reduceIte, Int.reduceBNe, Int.reduceBEq]
    refine .done (hK _ ?_); clear hK K; simp only [thenQ, blockQ]
    refine AW.ite ?_
    simp only [condQ, bR, Nat.reduceEqDiff, reduceIte, Int.reduceBNe, Int.reduceBEq]
    refine ⟨fun h => ?_, fun h => ?_⟩
    · refine AW.seq (AW.reg cd14_3 fun K hK => ?_)
      simp only [g14_3, bR, Nat.reduceEqDiff, reduceIte, Int.reduceBNe, Int.reduceBEq]
      refine .done (hK _ ?_); clear hK K; simp only [thenQ, blockQ]
      refine AW.ret ?_
      simp only [blockQ, thenQ, bR, Nat.reduceEqDiff, reduceIte, Int.reduceBNe, Int.reduceBEq]
      simp [lookedOf, hw, hr, hwo, nilInt]
    · cases h
  refine AW.seq (AW.reg cd14_2 fun K hK => ?_)
  simp only [g14_2, bR, Nat.reduceEqDiff, reduceIte, Int.reduceBNe, Int.reduceBEq]
  refine .done (hK _ ?_); clear hK K; simp only [thenQ, blockQ]
  refine AW.ite ?_
  simp only [condQ, bR, Nat.reduceEqDiff, reduceIte, Int.reduceBNe, Int.reduceBEq]
  refine ⟨fun h => ?_, fun h => ?_⟩
  · cases h
  refine AW.skip ?_; simp only [thenQ, blockQ, reduceIte, Nat.reduceEqDiff]
  refine AW.seq ?_
  refine AW.seq (AW.reg cd14_4 fun K hK => ?_)
  simp only [g14_4, bR, Nat.reduceEqDiff, reduceIte, Int.reduceBNe, Int.reduceBEq]
  try simp only [typR, useR, okR, e_fin, bR, Nat.reduceEqDiff, reduceIte, Int.reduceBNe, Int.reduceBEq]
  refine .flat _ (F71 places) rfl ?_
  generalize hpl : okPlaces places = bp
  cases bp
  · try simp only [typR, useR, okR, e_fin, bR, Nat.reduceEqDiff, reduceIte, Int.reduceBNe, Int.reduceBEq]
    refine .done (hK _ ?_); clear hK K; simp only [thenQ, blockQ]
    refine AW.ite ?_
    simp only [condQ, bR, Nat.reduceEqDiff, reduceIte, Int.reduceBNe, Int.reduceBEq]
    refine ⟨fun h => ?_, fun h => ?_⟩
    · refine AW.seq (AW.reg cd14_5 fun K hK => ?_)
      simp only [g14_5, bR, Nat.reduceEqDiff, reduceIte, Int.reduceBNe, Int.reduceBEq]
      refine .done (hK _ ?_); clear hK K; simp only [thenQ, blockQ]
      refine AW.ret ?_
      simp only [blockQ, thenQ, bR, Nat.reduceEqDiff, reduceIte, Int.reduceBNe, Int.reduceBEq]
      simp [lookedOf, hw, hr, hwo, hpl, nilInt]
    · cases h
  try simp only [typR, useR, okR, e_fin, bR, Nat.reduceEqDiff, reduceIte, Int.reduceBNe, Int.reduceBEq]
  refine .done (hK _ ?_); clear hK K; simp only [thenQ, blockQ]
  refine AW.ite ?_
  simp only [condQ, bR, Nat.reduceEqDiff, reduceIte, Int.reduceBNe, Int.reduceBEq]
  refine ⟨fun h => ?_, fun h => ?_⟩
  · cases h
  refine AW.skip ?_; simp only [thenQ, blockQ, reduceIte, Nat.reduceEqDiff]
  have hpi := okPlaces_in hpl
  have hlen : m.given.length ≤ 1000 := by have := okM_len hw; omega
  have hps : (possG m r).length ≤ 1000 := Nat.le_trans (List.length_filter_le _ _) hlen
  have hpm : ∀ g ∈ possG m r, okMark g.mark = true := fun g hg => okM_mark hw g (possG_mem hg)
  have hld : (lookedG m r worn places).length ≤ 1000 := Nat.le_trans (List.length_filter_le _ _) hps
  have hd : AV.dones [.ref (enc places), .ref (enc m), .ref (enc worn)] = true := by simp only [AV.dones, AV.done, e_closed, Bool.and_self]
  refine AW.seq (AW.reg cd14_6 fun K hK => ?_)
  simp only [g14_6, bR, Nat.reduceEqDiff, reduceIte, Int.reduceBNe, Int.reduceBEq]
  try simp only [typR, useR, okR, e_fin, bR, Nat.reduceEqDiff, reduceIte, Int.reduceBNe, Int.reduceBEq]
  refine .obj false [(7, 27)] [] [enc m, enc r] (possPost 7 m r) rfl (F65 m r (okM_mark hw) hlen) Gvn.nil ⟨.inl ⟨(e_ren _ _).symm, e_only _ _, e_isVal _⟩, .inl ⟨(e_ren _ _).symm, e_only _ _, e_isVal _⟩, trivial⟩ ?_ ?_
  · rintro x os' (⟨_, rfl, rfl⟩ | ⟨k, rfl, rfl⟩)
    · exact Bck.nil (fun _ => rfl) (fun h => by cases h)
    · exact Bck.new1 (fun p => map_only p _) (fun h => by cases h) rfl (fun h => by cases h) rfl (by decide)
  · rintro x os' (⟨hp, rfl, rfl⟩ | ⟨k, rfl, rfl⟩)
    · have hlk : lookedG m r worn places = [] := by simp [lookedG, keep, hp]
      simp only [e_ren, renR, List.nil_append, e_fin, List.all_cons, List.all_nil, AV.isVal, Bool.and_self, e_closed, bR, Nat.reduceEqDiff, reduceIte, Int.reduceBNe, Int.reduceBEq]
      refine .free [7, 4, 6] (enc ([] : List Given)) rfl (F73n 74 [.ref (enc places), .ref (enc m), .ref (enc worn)] hd) ?_ ?_ ?_
      · simp only [keepO, List.filter_cons, List.filter_nil, List.contains_cons, List.contains_nil, Nat.reduceBEq, Bool.or_false, Bool.or_true, Bool.true_or, Bool.false_or, BEq.rfl, e_closed, e_fin, bR, Nat.reduceEqDiff, reduceIte, Int.reduceBNe, Int.reduceBEq]
      · simp [dropO, onlyO, AO.only, e_only]
      · simp only [fgt, dropO, List.filter_cons, List.filter_nil, List.contains_cons, List.contains_nil, Nat.reduceBEq, Bool.or_false, Bool.or_true, Bool.true_or, Bool.false_or, BEq.rfl, e_fin, bR, Nat.reduceEqDiff, reduceIte, Int.reduceBNe, Int.reduceBEq]
        refine .lead _ (F72 [] (by simp)) ?_
        simp only [List.map_nil, bR, Nat.reduceEqDiff, reduceIte, Int.reduceBNe, Int.reduceBEq]
        refine .done (hK _ ?_); clear hK K; simp only [thenQ, blockQ]
        refine AW.ret ?_
        simp only [blockQ, thenQ, bR, Nat.reduceEqDiff, reduceIte, Int.reduceBNe, Int.reduceBEq]
        simp only [e_fin, bR, Nat.reduceEqDiff, reduceIte, Int.reduceBNe, Int.reduceBEq]
        simp [lookedOf, hw, hr, hwo, hpl, hlk]
    · simp only [rowG, renR, rens_map_enc, List.cons_append, List.nil_append, List.all_cons, List.all_nil, AV.isVal, Bool.and_self, bR, Nat.reduceEqDiff, reduceIte, Int.reduceBNe, Int.reduceBEq]
      refine .obj true [(1000000, 27)] (rowG 1000000 (possG m r) k) [.view 1000000 [] 7 0 (possG m r).length, .func 74 [.ref (enc places), .ref (enc m), .ref (enc worn)]] (delPost 1000000 (lookedG m r worn places)) rfl
        (F73 (possG m r) 74 [.ref (enc places), .ref (enc m), .ref (enc worn)] hd (clash m.wear worn places) (fun g hg => F74 m g worn places (hpm g hg) hpi) hps k) ⟨?_, ?_⟩ ⟨.inl ⟨?_, ?_, rfl⟩, .inr ?_, trivial⟩ ?_ ?_
      · intro n x h
        simp only [rowG, lookO] at h
        split at h
        · rename_i hn'
          subst hn'
          simp only [Option.some.injEq] at h
          subst h
          exact ⟨by simp only [renR, rens_map_enc, bR, Nat.reduceEqDiff, reduceIte, Int.reduceBNe, Int.reduceBEq], map_only _ _, rfl⟩
        · cases h
      · intro a b ha hb _
        rw [isIn_one.1 ha, isIn_one.1 hb]
      · simp only [renR, bR, Nat.reduceEqDiff, reduceIte, Int.reduceBNe, Int.reduceBEq]
      · exact isIn_one.2 rfl
      · simp only [names, rowG, rnm, dropO, List.filter_cons, List.filter_nil, List.map_cons, List.map_nil, List.contains_cons, List.contains_nil, Nat.reduceBEq, Bool.or_false, Bool.or_true, Bool.true_or, Bool.false_or, BEq.rfl, e_closed, e_fin, bR, Nat.reduceEqDiff, reduceIte, Int.reduceBNe, Int.reduceBEq]
      · rintro x os' ⟨k', rfl, rfl⟩
        exact Bck.one (fun p => map_only p _) (fun _ => map_lean _) (isIn_one.2 rfl) (fun _ => rfl)
      · rintro x os' ⟨k', rfl, rfl⟩
        simp only [rowG, renR, rens_map_enc, List.cons_append, List.nil_append, bR, Nat.reduceEqDiff, reduceIte, Int.reduceBNe, Int.reduceBEq]
        refine .free [27] _ rfl (F72 (lookedG m r worn places) hld) ?_ ?_ ?_
        · simp only [keepO, List.filter_cons, List.filter_nil, List.contains_cons, List.contains_nil, Nat.reduceBEq, Bool.or_false, Bool.or_true, Bool.true_or, Bool.false_or, BEq.rfl, finV_take (α := Given) (sz := 7) rfl, take_row, bR, Nat.reduceEqDiff, reduceIte, Int.reduceBNe, Int.reduceBEq]
        · simp [dropO, onlyO, AO.only, e_only]
        · simp only [fgt, dropO, List.filter_cons, List.filter_nil, List.contains_cons, List.contains_nil, Nat.reduceBEq, Bool.or_false, Bool.or_true, Bool.true_or, Bool.false_or, BEq.rfl, AV.only, e_only, bR, Nat.reduceEqDiff, reduceIte, Int.reduceBNe, Int.reduceBEq]
          refine .done (hK _ ?_); clear hK K; simp only [thenQ, blockQ]
          refine AW.ret ?_
          simp only [blockQ, thenQ, bR, Nat.reduceEqDiff, reduceIte, Int.reduceBNe, Int.reduceBEq]
          simp only [e_fin, bR, Nat.reduceEqDiff, reduceIte, Int.reduceBNe, Int.reduceBEq]
          simp [lookedOf, hw, hr, hwo, hpl]
end Go.Proofs.Ytkjkbpgdpnapfaa

/-
  FUNCTIONS OF mark BY CONTRACT: Worn.
-/
namespace Go.Proofs.Ytkjkbpgdpnapfaa
open Go Go.Abs
open Go.Abs.Enc (enc)
theorem members_mem {w : Int} {k : Nat} (h : bit w k = true) : ∀ n, k < n → (k : Int) ∈ members w n
  | 0, h => absurd h (by omega)
  | n + 1, hk => by
    simp only [members, List.mem_append]
    rcases Nat.lt_or_ge k n with h1 | h1
    · exact .inl (members_mem h n h1)
    · have : k = n := by omega
      subst this
      right; simp [h]
theorem members_in {w : Int} : ∀ n, ∀ x ∈ members w n, 0 ≤ x ∧ x < n
  | 0 => by simp [members]
  | n + 1 => by
    intro x hx
    simp only [members, List.mem_append] at hx
    rcases hx with hx | hx
    · have := members_in n x hx; omega
    · split at hx
      · simp only [List.mem_singleton] at hx; omega
      · cases hx
theorem okWear_at {w : Arr 5 Int} (h : okWear w = true) {k : Nat} (hk : k < 5) : (0 ≤ w.g k ∧ w.g k ≤ 31) ∧ bit (w.g k) k = true := by
  simp only [okWear, List.all_eq_true, List.mem_range, Bool.and_eq_true] at h
  have := h k hk
  simp only [inR, Bool.and_eq_true, decide_eq_true_eq] at this
  exact this
/-- The place of the sign that a cut chooses. -/
def cutAt (cuts : List Int) (i n : Nat) : Nat := if 0 < cuts.length then (((cuts.getD (i % cuts.length) 0).tmod n + n).tmod n).toNat else 0
def signs (w : Arr 5 Int) (a : Arr 6 Int) (i : Nat) : List Int := members (w.g (a.g i).toNat) 5
def wornV (w : Arr 5 Int) (a : Arr 6 Int) (cuts : List Int) (i : Nat) : Int := shl 1 ((signs w a i).getD (cutAt cuts i (signs w a i).length) 0).toNat
def wornUp (w : Arr 5 Int) (a : Arr 6 Int) (cuts : List Int) : Nat → Arr 6 Int
  | 0 => zero6
  | i + 1 => upd (wornUp w a cuts i) i (wornV w a cuts i)
def wornR (w : Arr 5 Int) (a : Arr 6 Int) (cuts : List Int) : Arr 6 Int × Int := if okWear w then (if okMark a then (wornUp w a cuts 6, 0) else (zero6, 10)) else (zero6, 11)
theorem cutAt_lt (cuts : List Int) (i : Nat) {n : Nat} (hn : 0 < n) : cutAt cuts i n < n := by
  unfold cutAt
  split
  · have h1 : -(n : Int) < (cuts.getD (i % cuts.length) 0).tmod n := by
      have := Int.tmod_lt_of_pos (-(cuts.getD (i % cuts.length) 0)) (show (0 : Int) < n by omega)
      rw [Int.neg_tmod] at this; omega
    have h2 := Int.tmod_lt_of_pos ((cuts.getD (i % cuts.length) 0).tmod n + n) (show (0 : Int) < n by omega)
    have h3 : 0 ≤ ((cuts.getD (i % cuts.length) 0).tmod n + n).tmod n := Int.tmod_nonneg _ (by omega)
    omega
  · exact hn
theorem F19 (w : Arr 5 Int) (a : Arr 6 Int) (cuts : List Int) : Ctr Try.prog 19 [enc w, enc a, enc cuts] (.tuple [enc (wornR w a cuts).1, enc (wornR w a cuts).2]) := by
  refine Ctr.mk' Try.func19 ca19 cc19 cr19 (Nat.le_of_ble_eq_true rfl) (fun hwf W0 D0 E1 => ?_)
  simp only [c19, r19, idx, Nat.zero_add, Nat.reduceAdd]
  have hlen : cuts.length ≤ maxLen := ((wf_list cuts).1 hwf.2.2.1).1
  simp only [maxLen] at hlen
  refine AW.seq (AW.reg cd19_0 fun K hK => ?_)
  simp only [g19_0, bR, Nat.reduceEqDiff, reduceIte, Int.reduceBNe, Int.reduceBEq]
  simp only [e_isVal, e_zero6, bR, Nat.reduceEqDiff, reduceIte, Int.reduceBNe, Int.reduceBEq]
  refine .done (hK _ ?_); clear hK K; simp only [thenQ, blockQ]
  refine AW.seq ?_
  refine AW.seq (AW.reg cd19_1 fun K hK => ?_)
  simp only [g19_1, bR, Nat.reduceEqDiff, reduceIte, Int.reduceBNe, Int.reduceBEq]
  try simp only [typR, useR, okR, e_fin, bR, Nat.reduceEqDiff, reduceIte, Int.reduceBNe, Int.reduceBEq]
  refine .flat _ (F43 w) rfl ?_
  try simp only [typR, useR, okR, e_fin, bR, Nat.reduceEqDiff, reduceIte, Int.reduceBNe, Int.reduceBEq]
  refine .flat _ (F41 a) rfl ?_
  simp only [typR, useR, okR, e_fin, bs2, bR, Nat.reduceEqDiff, reduceIte, Int.reduceBNe, Int.reduceBEq]
  refine .flat _ (F64 _) rfl ?_
  rw [first2 _ _ 11 10 (by decide) (by decide)]
  simp only [bR, Nat.reduceEqDiff, reduceIte, Int.reduceBNe, Int.reduceBEq]
  refine .done (hK _ ?_); clear hK K; simp only [thenQ, blockQ]
  generalize hw : okWear w = bw
  generalize ha : okMark a = ba
  cases bw
  · refine AW.seq (AW.reg cd19_2 fun K hK => ?_)
    simp only [g19_2, bR, Nat.reduceEqDiff, reduceIte, Int.reduceBNe, Int.reduceBEq]
    refine .done (hK _ ?_); clear hK K; simp only [thenQ, blockQ]
    refine AW.ite ?_
    simp only [condQ, bR, Nat.reduceEqDiff, reduceIte, Int.reduceBNe, Int.reduceBEq]
    refine ⟨fun h => ?_, fun h => ?_⟩
    · refine AW.seq (AW.reg cd19_3 fun K hK => ?_)
      simp only [g19_3, bR, Nat.reduceEqDiff, reduceIte, Int.reduceBNe, Int.reduceBEq]
      simp only [setParts, e_zero6, stR3_6, bR, Nat.reduceEqDiff, reduceIte, Int.reduceBNe, Int.reduceBEq]
      refine .done (hK _ ?_); clear hK K; simp only [thenQ, blockQ]
      refine AW.ret ?_
      simp only [blockQ, thenQ, bR, Nat.reduceEqDiff, reduceIte, Int.reduceBNe, Int.reduceBEq]
      simp only [typR, e_fin, bR, Nat.reduceEqDiff, reduceIte, Int.reduceBNe, Int.reduceBEq]
      simp [wornR, hw, e_int]
    · cases h
  cases ba
  · refine AW.seq (AW.reg cd19_2 fun K hK => ?_)
    simp only [g19_2, bR, Nat.reduceEqDiff, reduceIte, Int.reduceBNe, Int.reduceBEq]
    refine .done (hK _ ?_); clear hK K; simp only [thenQ, blockQ]
    refine AW.ite ?_
    simp only [condQ, bR, Nat.reduceEqDiff, reduceIte, Int.reduceBNe, Int.reduceBEq]
    refine ⟨fun h => ?_, fun h => ?_⟩
    · refine AW.seq (AW.reg cd19_3 fun K hK => ?_)
      simp only [g19_3, bR, Nat.reduceEqDiff, reduceIte, Int.reduceBNe, Int.reduceBEq]
      simp only [setParts, e_zero6, stR3_6, bR, Nat.reduceEqDiff, reduceIte, Int.reduceBNe, Int.reduceBEq]
      refine .done (hK _ ?_); clear hK K; simp only [thenQ, blockQ]
      refine AW.ret ?_
      simp only [blockQ, thenQ, bR, Nat.reduceEqDiff, reduceIte, Int.reduceBNe, Int.reduceBEq]
      simp only [typR, e_fin, bR, Nat.reduceEqDiff, reduceIte, Int.reduceBNe, Int.reduceBEq]
      simp [wornR, hw, ha, e_int]
    · cases h
  refine AW.seq (AW.reg cd19_2 fun K hK => ?_)
  simp only [g19_2, bR, Nat.reduceEqDiff, reduceIte, Int.reduceBNe, Int.reduceBEq]
  refine .done (hK _ ?_); clear hK K; simp only [thenQ, blockQ]
  refine AW.ite ?_
  simp only [condQ, bR, Nat.reduceEqDiff, reduceIte, Int.reduceBNe, Int.reduceBEq]
  refine ⟨fun h => ?_, fun h => ?_⟩
  · cases h
  refine AW.skip ?_; simp only [thenQ, blockQ, reduceIte, Nat.reduceEqDiff]
  refine AW.seq (AW.reg cd19_4 fun K hK => ?_)
  simp only [g19_4, bR, Nat.reduceEqDiff, reduceIte, Int.reduceBNe, Int.reduceBEq]
  refine .done (hK _ ?_); clear hK K; simp only [thenQ, blockQ]
  refine AW.seq ?_
  refine AW.seq (AW.reg cd19_5 fun K hK => ?_)
  simp only [g19_5, bR, Nat.reduceEqDiff, reduceIte, Int.reduceBNe, Int.reduceBEq]
  refine .done (hK _ ?_); clear hK K; simp only [thenQ, blockQ]
  refine AW.block (AW.loop (fun i : Nat => mkA [(2, enc cuts), (3, .ptr 3 []), (4, .ptr 4 []), (6, .ptr 6 []), (9, .ptr 9 []), (23, .int .i64 i)] [(3, .box (enc w)), (4, .box (enc a)), (6, .box (enc zero6)), (9, .box (enc (wornUp w a cuts i)))]) (fun i => i ≤ 6) (fun i => 6 - i) 0 (by omega) ?_ (fun i hi => ?_))
  · simp only [e_zero6, wornUp]
    refine Sub.of_lists ?_ ?_ ?_ ?_ <;> simp [subT, subO, onlyT, onlyO, isIn, look_cons, lookO_cons, lookO_nil, AV.only, AV.onlys, AO.only, onlys_map, onlys_append, e_only, e_int, e_bool]
  refine AW.seq (AW.reg cd19_6 fun K hK => ?_)
  simp only [g19_6, bR, Nat.reduceEqDiff, reduceIte, Int.reduceBNe, Int.reduceBEq]
  refine .done (hK _ ?_); clear hK K; simp only [thenQ, blockQ]
  refine AW.seq ?_
  refine AW.ite ?_
  simp only [condQ, bR, Nat.reduceEqDiff, reduceIte, Int.reduceBNe, Int.reduceBEq]
  refine ⟨fun h => ?_, fun h => ?_⟩
  · have hi6 : i < 6 := by simp at h; omega
    refine AW.skip ?_; simp only [thenQ, blockQ, reduceIte, Nat.reduceEqDiff]
    refine AW.seq (AW.block ?_)
    refine AW.seq (AW.reg cd19_7 fun K hK => ?_)
    simp only [g19_7, bR, Nat.reduceEqDiff, reduceIte, Int.reduceBNe, Int.reduceBEq]
    refine .done (hK _ ?_); clear hK K; simp only [thenQ, blockQ]
    refine AW.seq (AW.reg cd19_8 fun K hK => ?_)
    simp only [g19_8, bR, Nat.reduceEqDiff, reduceIte, Int.reduceBNe, Int.reduceBEq]
    try simp only [typR, useR, okR, e_fin, bR, Nat.reduceEqDiff, reduceIte, Int.reduceBNe, Int.reduceBEq]
    have h1 := okMark_at ha hi6
    have h2 := okWear_at hw (show (a.g i).toNat < 5 by omega)
    refine .flat _ (F77 w a i hi6 h1.1 h1.2) rfl ?_
    try simp only [typR, useR, okR, e_fin, bR, Nat.reduceEqDiff, reduceIte, Int.reduceBNe, Int.reduceBEq]
    refine .lead _ (F81 (w.g (a.g i).toNat) h2.1.1 h2.1.2) ?_
    try simp only [typR, useR, okR, e_fin, bR, Nat.reduceEqDiff, reduceIte, Int.reduceBNe, Int.reduceBEq]
    refine .done (hK _ ?_); clear hK K; simp only [thenQ, blockQ]
    have hL : signs w a i = members (w.g (a.g i).toNat) 5 := rfl
    rw [← hL]
    have hL5 : (signs w a i).length ≤ 5 := members_le _ 5
    have hL0 : 0 < (signs w a i).length := List.length_pos_of_mem (members_mem h2.2 5 (by omega))
    have hLn : ¬ ((signs w a i).length : Int) = 0 := by omega
    have hLi : ∀ x ∈ signs w a i, 0 ≤ x ∧ x < (5 : Nat) := members_in 5
    have hV : wornV w a cuts i = shl 1 ((signs w a i).getD (cutAt cuts i (signs w a i).length) 0).toNat := rfl
    have hcl := cutAt_lt cuts i hL0
    generalize hLL : signs w a i = L at hL5 hL0 hLn hLi hV hcl ⊢
    refine AW.seq (AW.reg cd19_9 fun K hK => ?_)
    simp only [g19_9, bR, Nat.reduceEqDiff, reduceIte, Int.reduceBNe, Int.reduceBEq]
    refine .done (hK _ ?_); clear hK K; simp only [thenQ, blockQ]
    refine AW.seq ?_
    refine AW.via (mkA [(2, enc cuts), (3, .ptr 3 []), (4, .ptr 4 []), (6, .ptr 6 []), (9, .ptr 9 []), (10, .int .i64 i), (11, enc L), (12, .int .i64 (cutAt cuts i L.length)), (23, .int .i64 i)] [(3, .box (enc w)), (4, .box (enc a)), (6, .box (enc zero6)), (9, .box (enc (wornUp w a cuts i)))]) ?_ fun B hB => ?_
    · refine AW.seq (AW.reg cd19_10 fun K hK => ?_)
      simp only [g19_10, bR, Nat.reduceEqDiff, reduceIte, Int.reduceBNe, Int.reduceBEq]
      try simp only [typR, useR, okR, e_fin, bR, Nat.reduceEqDiff, reduceIte, Int.reduceBNe, Int.reduceBEq]
      refine .done (hK _ ?_); clear hK K; simp only [thenQ, blockQ]
      refine AW.ite ?_
      simp only [condQ, bR, Nat.reduceEqDiff, reduceIte, Int.reduceBNe, Int.reduceBEq]
      refine ⟨fun h => ?_, fun h => ?_⟩
      · have hcp : 0 < cuts.length := by simpa using h
        have hcn : ¬ (cuts.length : Int) = 0 := by omega
        have hm : (i : Int).tmod cuts.length = ((i % cuts.length : Nat) : Int) := Int.ofNat_tmod i cuts.length
        have hml : i % cuts.length < cuts.length := Nat.mod_lt _ hcp
        refine AW.reg cd19_11 fun K hK => ?_
        simp only [g19_11, bR, Nat.reduceEqDiff, reduceIte, Int.reduceBNe, Int.reduceBEq]
        simp only [hcn, hm, isE_getD hml, hLn, typR, useR, okR, bR, Nat.reduceEqDiff, reduceIte, Int.reduceBNe, Int.reduceBEq]
        refine .done (hK _ ?_); clear hK K; simp only [thenQ, blockQ]
        generalize hx : cuts.getD (i % cuts.length) 0 = x
        have b1 := Int.tmod_lt_of_pos x (show (0 : Int) < L.length by omega)
        have b2 : -(L.length : Int) < x.tmod L.length := by
          have := Int.tmod_lt_of_pos (-x) (show (0 : Int) < L.length by omega)
          rw [Int.neg_tmod] at this; omega
        have b3 : 0 ≤ (x.tmod L.length + L.length).tmod L.length := Int.tmod_nonneg _ (by omega)
        have hcut : ((cutAt cuts i L.length : Nat) : Int) = (x.tmod L.length + L.length).tmod L.length := by
          simp only [cutAt, if_pos hcp, hx]; omega
        rw [wrap_id _ (by omega) (by omega), ← hcut]
        refine Sub.of_lists ?_ ?_ ?_ ?_ <;> simp [subT, subO, onlyT, onlyO, isIn, look_cons, lookO_cons, lookO_nil, AV.only, AV.onlys, AO.only, onlys_map, onlys_append, e_only, e_int, e_bool]
      · have hcp : cuts.length = 0 := by simpa using h
        refine AW.skip ?_; simp only [thenQ, blockQ, reduceIte, Nat.reduceEqDiff]
        have : cutAt cuts i L.length = 0 := by simp [cutAt, hcp]
        rw [this]
        refine Sub.of_lists ?_ ?_ ?_ ?_ <;> simp [subT, subO, onlyT, onlyO, isIn, look_cons, lookO_cons, lookO_nil, AV.only, AV.onlys, AO.only, onlys_map, onlys_append, e_only, e_int, e_bool]
    simp only [thenQ, blockQ]
    refine AW.sub hB ?_
    have hin := hLi (L.getD (cutAt cuts i L.length) 0) (by rw [List.getD_eq_getElem?_getD, List.getElem?_eq_getElem hcl]; exact List.getElem_mem hcl)
    refine AW.reg cd19_12 fun K hK => ?_
    simp only [g19_12, bR, Nat.reduceEqDiff, reduceIte, Int.reduceBNe, Int.reduceBEq]
    simp only [isE_getD hcl, typR, useR, okR, bR, Nat.reduceEqDiff, reduceIte, Int.reduceBNe, Int.reduceBEq]
    have hsh : IntKind.i64.wrap (1 * 2 ^ min (L.getD (cutAt cuts i L.length) 0).toNat IntKind.i64.bits) = wornV w a cuts i := hV.symm
    rw [if_pos hin.1, hsh]
    simp only [typR, useR, okR, inB_nat 1 (wornUp w a cuts i) hi6 rfl, atL_g (wornUp w a cuts i) hi6, get_g (wornUp w a cuts i) hi6, stR3_g (wornUp w a cuts i) hi6, bR, Nat.reduceEqDiff, reduceIte, Int.reduceBNe, Int.reduceBEq]
    refine .done (hK _ ?_); clear hK K; simp only [thenQ, blockQ]
    refine AW.reg cd19_13 fun K hK => ?_
    simp only [g19_13, bR, Nat.reduceEqDiff, reduceIte, Int.reduceBNe, Int.reduceBEq]
    refine .done (hK _ ?_); clear hK K; simp only [thenQ, blockQ]
    refine ⟨i + 1, by omega, by omega, ?_⟩
    rw [wrap_id _ (by omega) (by omega), wornUp]
    refine Sub.of_lists ?_ ?_ ?_ ?_ <;> simp [subT, subO, onlyT, onlyO, isIn, look_cons, lookO_cons, lookO_nil, AV.only, AV.onlys, AO.only, onlys_map, onlys_append, e_only, e_int, e_bool]
  · have h6 : i = 6 := by simp at h; omega
    subst h6
    refine AW.exit ?_; simp only [thenQ, blockQ, reduceIte, Nat.reduceEqDiff]
    refine AW.seq (AW.reg cd19_14 fun K hK => ?_)
    simp only [g19_14, bR, Nat.reduceEqDiff, reduceIte, Int.reduceBNe, Int.reduceBEq]
    simp only [typR, stR3_6, bR, Nat.reduceEqDiff, reduceIte, Int.reduceBNe, Int.reduceBEq]
    refine .done (hK _ ?_); clear hK K; simp only [thenQ, blockQ]
    refine AW.ret ?_
    simp only [blockQ, thenQ, bR, Nat.reduceEqDiff, reduceIte, Int.reduceBNe, Int.reduceBEq]
    simp only [typR, e_fin, bR, Nat.reduceEqDiff, reduceIte, Int.reduceBNe, Int.reduceBEq]
    simp [wornR, hw, ha, e_int]
end Go.Proofs.Ytkjkbpgdpnapfaa

/-
  THE LAW's OWN CHECK OF THE BOOK IT KNOWS, BY CONTRACT: sane.
-/
namespace Go.Proofs.Ytkjkbpgdpnapfaa
open Go Go.Abs
open Go.Abs.Enc (enc)
def rd1 : Arr 6 Int := a6 31 1 1 1 1 31
def wn1 : Arr 6 Int := a6 16 1 1 1 1 1
theorem sOwn : ownersOf bookM rd1 = ([1, 2, 3], 0) := by decide +kernel
theorem sLook : lookOf bookM rd1 = ([0], 0) := by decide +kernel
theorem sLooked : lookedOf bookM rd1 wn1 [0] = ([3], 0) := by decide +kernel
theorem sDist : distR bookM.wear (a6 2 1 0 0 0 0) (a6 3 2 0 0 0 0) = (2, 0) := by decide +kernel
theorem sWorn1 : (wornR bookM.wear (a6 3 1 0 0 0 0) [1, 0]).1 = wn1 := arr_ext (by decide +kernel)
theorem sWorn2 : (wornR bookM.wear (a6 3 1 0 0 0 0) [1, 0]).2 = 0 := by decide +kernel
theorem sNextK : nextK bookM = some 2 := find_range _ (by omega) (by decide +kernel) (fun j hj => by
  match j, hj with
  | 0, _ => decide +kernel
  | 1, _ => decide +kernel
  | n + 2, h => exact absurd h (by omega))
theorem sNext1 : (nextOf bookM).1 = a6 0 0 0 0 0 2 := by
  have h1 : okM bookM = true := by decide +kernel
  have h2 : ¬ bookM.given.length = 40 := by decide +kernel
  simp only [nextOf, h1, if_true, if_neg h2, sNextK]
  exact arr_ext (by decide +kernel)
theorem sNext2 : (nextOf bookM).2 = 0 := by
  have h1 : okM bookM = true := by decide +kernel
  have h2 : ¬ bookM.given.length = 40 := by decide +kernel
  simp only [nextOf, h1, if_true, if_neg h2, sNextK]
theorem F21 : Ctr Try.prog 21 [] (enc true) := by
  refine Ctr.mk' Try.func21 ca21 cc21 cr21 (Nat.le_of_ble_eq_true rfl) (fun hwf W0 D0 E1 => ?_)
  simp only [c21, r21, idx, Nat.zero_add, Nat.reduceAdd]
  refine AW.seq (AW.reg cd21_0 fun K hK => ?_)
  simp only [g21_0, bR, Nat.reduceEqDiff, reduceIte, Int.reduceBNe, Int.reduceBEq]
  refine .done (hK _ ?_); clear hK K; simp only [thenQ, blockQ]
  refine AW.seq (AW.reg cd21_1 fun K hK => ?_)
  simp only [g21_1, bR, Nat.reduceEqDiff, reduceIte, Int.reduceBNe, Int.reduceBEq]
  refine .lead _ F82 ?_
  simp only [e_a5, bR, Nat.reduceEqDiff, reduceIte, Int.reduceBNe, Int.reduceBEq]
  rw [stR3_ok (e_isVal _) (by rw [e_okS]; rfl) ((e_sh _).trans rfl)]
  simp only [setAt_nil, bR, Nat.reduceEqDiff, reduceIte, Int.reduceBNe, Int.reduceBEq]
  refine .done (hK _ ?_); clear hK K; simp only [thenQ, blockQ]
  refine AW.seq (AW.reg cd21_2 fun K hK => ?_)
  simp only [g21_2, bR, Nat.reduceEqDiff, reduceIte, Int.reduceBNe, Int.reduceBEq]
  simp only [bld6, e_a6, stR3_6, bR, Nat.reduceEqDiff, reduceIte, Int.reduceBNe, Int.reduceBEq]
  refine .done (hK _ ?_); clear hK K; simp only [thenQ, blockQ]
  refine AW.seq (AW.reg cd21_3 fun K hK => ?_)
  simp only [g21_3, bR, Nat.reduceEqDiff, reduceIte, Int.reduceBNe, Int.reduceBEq]
  try simp only [typR, useR, okR, e_fin, bR, Nat.reduceEqDiff, reduceIte, Int.reduceBNe, Int.reduceBEq]
  refine .lead _ (F26 bookM rd1) ?_
  simp only [sOwn, typR, bR, Nat.reduceEqDiff, reduceIte, Int.reduceBNe, Int.reduceBEq]
  refine .done (hK _ ?_); clear hK K; simp only [thenQ, blockQ]
  refine AW.seq (AW.reg cd21_4 fun K hK => ?_)
  simp only [g21_4, bR, Nat.reduceEqDiff, reduceIte, Int.reduceBNe, Int.reduceBEq]
  try simp only [typR, useR, okR, e_fin, bR, Nat.reduceEqDiff, reduceIte, Int.reduceBNe, Int.reduceBEq]
  refine .lead _ (F12 bookM rd1) ?_
  simp only [sLook, typR, bR, Nat.reduceEqDiff, reduceIte, Int.reduceBNe, Int.reduceBEq]
  refine .done (hK _ ?_); clear hK K; simp only [thenQ, blockQ]
  refine AW.seq (AW.reg cd21_5 fun K hK => ?_)
  simp only [g21_5, bR, Nat.reduceEqDiff, reduceIte, Int.reduceBNe, Int.reduceBEq]
  simp only [typR, useR, okR, e_fin, bld6, e_a6, bR, Nat.reduceEqDiff, reduceIte, Int.reduceBNe, Int.reduceBEq]
  refine .lead _ (F14 bookM rd1 wn1 [0]) ?_
  simp only [sLooked, typR, bR, Nat.reduceEqDiff, reduceIte, Int.reduceBNe, Int.reduceBEq]
  refine .done (hK _ ?_); clear hK K; simp only [thenQ, blockQ]
  refine AW.seq (AW.reg cd21_6 fun K hK => ?_)
  simp only [g21_6, bR, Nat.reduceEqDiff, reduceIte, Int.reduceBNe, Int.reduceBEq]
  try simp only [typR, useR, okR, e_fin, bR, Nat.reduceEqDiff, reduceIte, Int.reduceBNe, Int.reduceBEq]
  refine .lead _ (F55 bookM) ?_
  simp only [sNext1, sNext2, typR, e_a6, stR3_6, bR, Nat.reduceEqDiff, reduceIte, Int.reduceBNe, Int.reduceBEq]
  refine .done (hK _ ?_); clear hK K; simp only [thenQ, blockQ]
  refine AW.seq (AW.reg cd21_7 fun K hK => ?_)
  simp only [g21_7, bR, Nat.reduceEqDiff, reduceIte, Int.reduceBNe, Int.reduceBEq]
  simp only [typR, useR, okR, e_fin, bld6, e_a6, bR, Nat.reduceEqDiff, reduceIte, Int.reduceBNe, Int.reduceBEq]
  refine .lead _ (F36 bookM.wear (a6 2 1 0 0 0 0) (a6 3 2 0 0 0 0)) ?_
  simp only [sDist, typR, bR, Nat.reduceEqDiff, reduceIte, Int.reduceBNe, Int.reduceBEq]
  refine .done (hK _ ?_); clear hK K; simp only [thenQ, blockQ]
  refine AW.seq (AW.reg cd21_8 fun K hK => ?_)
  simp only [g21_8, bR, Nat.reduceEqDiff, reduceIte, Int.reduceBNe, Int.reduceBEq]
  simp only [typR, useR, okR, e_fin, bld6, e_a6, bs2, bR, Nat.reduceEqDiff, reduceIte, Int.reduceBNe, Int.reduceBEq]
  refine .lead _ (F19 bookM.wear (a6 3 1 0 0 0 0) [1, 0]) ?_
  simp only [sWorn1, sWorn2, typR, e_a6, stR3_6, bR, Nat.reduceEqDiff, reduceIte, Int.reduceBNe, Int.reduceBEq]
  refine .done (hK _ ?_); clear hK K; simp only [thenQ, blockQ]
  refine AW.seq (AW.reg cd21_9 fun K hK => ?_)
  simp only [g21_9, bR, Nat.reduceEqDiff, reduceIte, Int.reduceBNe, Int.reduceBEq]
  try simp only [typR, useR, okR, e_fin, bR, Nat.reduceEqDiff, reduceIte, Int.reduceBNe, Int.reduceBEq]
  refine .done (hK _ ?_); clear hK K; simp only [thenQ, blockQ]
  refine AW.seq (AW.reg cd21_10 fun K hK => ?_)
  simp only [g21_10, bR, Nat.reduceEqDiff, reduceIte, Int.reduceBNe, Int.reduceBEq]
  simp only [typR, useR, okR, e_fin, bs3, bR, Nat.reduceEqDiff, reduceIte, Int.reduceBNe, Int.reduceBEq]
  refine .flat _ (F16 [1, 2, 3] [1, 2, 3]) rfl ?_
  simp only [typR, useR, okR, e_fin, decide_true, bR, Nat.reduceEqDiff, reduceIte, Int.reduceBNe, Int.reduceBEq]
  refine .flat _ (F16 [0] [0]) rfl ?_
  simp only [typR, useR, okR, e_fin, decide_true, bR, Nat.reduceEqDiff, reduceIte, Int.reduceBNe, Int.reduceBEq]
  refine .flat _ (F16 [3] [3]) rfl ?_
  simp only [typR, useR, okR, e_fin, decide_true, bld6, e_a6, eqE_arr, bR, Nat.reduceEqDiff, reduceIte, Int.reduceBNe, Int.reduceBEq]
  refine .done (hK _ ?_); clear hK K; simp only [thenQ, blockQ]
  refine AW.ret ?_
  simp only [blockQ, thenQ, bR, Nat.reduceEqDiff, reduceIte, Int.reduceBNe, Int.reduceBEq]
  rfl
end Go.Proofs.Ytkjkbpgdpnapfaa

/-
  FUNCTIONS OF THE REFERENCE BY CONTRACT: MeetError, Meets.
-/
namespace Go.Proofs.Ytkjkbpgdpnapfaa
open Go Go.Abs
open Go.Abs.Enc (enc)
structure Pair where
  a : Arr 6 Int
  b : Arr 6 Int
instance : Enc Pair where
  enc p := .agg [enc p.a, enc p.b]
  sz := 12
  sh := .many [.many (List.replicate 6 .one), .many (List.replicate 6 .one)]
  isA := true
  done p := by simp only [AV.done, AV.dones, Enc.done, Bool.and_self]
  size p := by simp only [AV.size, AV.sizes, e_size, e_szArr, e_szInt]
  shp p := by simp only [AV.sh, AV.shs, e_sh, e_shArr, e_shInt]
  agg _ := rfl
def sharp (m : Arr 6 Int) : Bool := (List.range 6).all (fun i => (band (m.g i) (IntKind.i64.wrap (m.g i - 1)) == 0))
def meetsR (w : Arr 5 Int) (n : Int) (p : Pair) (r : Arr 6 Int) : Bool := okReading r && (sharp r && (decide (costOf w p.a r ≤ n) && decide (costOf w p.b r ≤ n)))
end Go.Proofs.Ytkjkbpgdpnapfaa

/-
  FUNCTIONS OF mark BY CONTRACT: Meet.
-/
namespace Go.Proofs.Ytkjkbpgdpnapfaa
open Go Go.Abs
open Go.Abs.Enc (enc)
def one (l : List Int) : Int := shl 1 (l.getD 0 0).toNat
def sg (w : Arr 5 Int) (a : Arr 6 Int) (i : Nat) : Int := w.g (a.g i).toNat
def meetStep (w : Arr 5 Int) (a b : Arr 6 Int) (s : Arr 6 Int × Nat) (i : Nat) : Arr 6 Int × Nat :=
  if band (sg w a i) (sg w b i) != 0 then (upd s.1 i (one (members (band (sg w a i) (sg w b i)) 5)), s.2) else if s.2 % 2 = 0 then (upd s.1 i (one (members (sg w a i) 5)), s.2 + 1) else (upd s.1 i (one (members (sg w b i) 5)), s.2 + 1)
def meetUp (w : Arr 5 Int) (a b : Arr 6 Int) : Nat → Arr 6 Int × Nat
  | 0 => (zero6, 0)
  | i + 1 => meetStep w a b (meetUp w a b i) i
def meetR (w : Arr 5 Int) (n : Int) (a b : Arr 6 Int) : Arr 6 Int × Int :=
  if okWear w then (if okMark a then (if okMark b then (if inR 0 2 n then (if IntKind.i64.wrap (2 * n) < (cnt (apartAt w a b) 6 : Int) then (zero6, 14) else ((meetUp w a b 6).1, 0)) else (zero6, 1)) else (zero6, 10)) else (zero6, 10)) else (zero6, 11)
theorem meetUp_le (w : Arr 5 Int) (a b : Arr 6 Int) : ∀ i, (meetUp w a b i).2 ≤ i
  | 0 => Nat.le_refl _
  | i + 1 => by
    have := meetUp_le w a b i
    simp only [meetUp, meetStep]
    split
    · simp only; omega
    · split <;> simp only <;> omega
theorem band_in (x y : Int) (hx : 0 ≤ x ∧ x ≤ 31) (hy : 0 ≤ y ∧ y ≤ 31) : 0 ≤ band x y ∧ band x y ≤ 31 := by
  have key : ∀ x y : Fin 32, 0 ≤ band (x.1 : Int) (y.1 : Int) ∧ band (x.1 : Int) (y.1 : Int) ≤ 31 := by decide +kernel
  have := key ⟨x.toNat, by omega⟩ ⟨y.toNat, by omega⟩
  simp only [show ((x.toNat : Nat) : Int) = x by omega, show ((y.toNat : Nat) : Int) = y by omega] at this
  exact this
theorem members_pos (x : Int) (hx : 0 ≤ x ∧ x ≤ 31) (h0 : x ≠ 0) : 0 < (members x 5).length := by
  have key : ∀ x : Fin 32, (x.1 : Int) ≠ 0 → 0 < (members (x.1 : Int) 5).length := by decide +kernel
  have := key ⟨x.toNat, by omega⟩ (by simp only; omega)
  simp only [show ((x.toNat : Nat) : Int) = x by omega] at this
  exact this
theorem bit_ne {x : Int} {k : Nat} (hx : 0 ≤ x ∧ x ≤ 31) (hk : k < 5) (h : bit x k = true) : x ≠ 0 := by
  rintro rfl
  have key : ∀ k : Fin 5, bit 0 k.1 = false := by decide +kernel
  rw [key ⟨k, hk⟩] at h; cases h
theorem isE0 {A : AState} {l : List Int} (h : 0 < l.length) : isE A 1 0 (enc l) = some (.ref (.int .i64 (l.getD 0 0))) := isE_getD (i := 0) h
theorem getD0_in {x : Int} (h : 0 < (members x 5).length) : 0 ≤ (members x 5).getD 0 0 ∧ (members x 5).getD 0 0 < 5 := by
  have : (members x 5).getD 0 0 ∈ members x 5 := by
    rw [List.getD_eq_getElem?_getD, List.getElem?_eq_getElem h]; exact List.getElem_mem h
  have := members_in 5 _ this
  omega
theorem F38 (w : Arr 5 Int) (n : Int) (a b : Arr 6 Int) : Ctr Try.prog 38 [enc w, enc n, enc a, enc b] (.tuple [enc (meetR w n a b).1, enc (meetR w n a b).2]) := by
  refine Ctr.mk' Try.func38 ca38 cc38 cr38 (Nat.le_of_ble_eq_true rfl) (fun hwf W0 D0 E1 => ?_)
  simp only [c38, r38, idx, Nat.zero_add, Nat.reduceAdd]
  refine AW.seq (AW.reg cd38_0 fun K hK => ?_)
  simp only [g38_0, bR, Nat.reduceEqDiff, reduceIte, Int.reduceBNe, Int.reduceBEq]
  simp only [e_isVal, e_zero6, bR, Nat.reduceEqDiff, reduceIte, Int.reduceBNe, Int.reduceBEq]
  refine .done (hK _ ?_); clear hK K; simp only [thenQ, blockQ]
  refine AW.seq ?_
  refine AW.seq (AW.reg cd38_1 fun K hK => ?_)
  simp only [g38_1, bR, Nat.reduceEqDiff, reduceIte, Int.reduceBNe, Int.reduceBEq]
  try simp only [typR, useR, okR, e_fin, bR, Nat.reduceEqDiff, reduceIte, Int.reduceBNe, Int.reduceBEq]
  refine .flat _ (F43 w) rfl ?_
  try simp only [typR, useR, okR, e_fin, bR, Nat.reduceEqDiff, reduceIte, Int.reduceBNe, Int.reduceBEq]
  refine .flat _ (F41 a) rfl ?_
  try simp only [typR, useR, okR, e_fin, bR, Nat.reduceEqDiff, reduceIte, Int.reduceBNe, Int.reduceBEq]
  refine .flat _ (F41 b) rfl ?_
  simp only [typR, useR, okR, e_fin, bs3, bR, Nat.reduceEqDiff, reduceIte, Int.reduceBNe, Int.reduceBEq]
  refine .flat _ (F64 _) rfl ?_
  rw [first3 _ _ _ 11 10 10 (by decide) (by decide) (by decide)]
  simp only [bR, Nat.reduceEqDiff, reduceIte, Int.reduceBNe, Int.reduceBEq]
  refine .done (hK _ ?_); clear hK K; simp only [thenQ, blockQ]
  generalize hw : okWear w = bw
  generalize ha : okMark a = ba
  generalize hb : okMark b = bb
  cases bw
  · refine AW.seq (AW.reg cd38_2 fun K hK => ?_)
    simp only [g38_2, bR, Nat.reduceEqDiff, reduceIte, Int.reduceBNe, Int.reduceBEq]
    refine .done (hK _ ?_); clear hK K; simp only [thenQ, blockQ]
    refine AW.ite ?_
    simp only [condQ, bR, Nat.reduceEqDiff, reduceIte, Int.reduceBNe, Int.reduceBEq]
    refine ⟨fun h => ?_, fun h => ?_⟩
    · refine AW.seq (AW.reg cd38_3 fun K hK => ?_)
      simp only [g38_3, bR, Nat.reduceEqDiff, reduceIte, Int.reduceBNe, Int.reduceBEq]
      simp only [setParts, e_zero6, stR3_6, bR, Nat.reduceEqDiff, reduceIte, Int.reduceBNe, Int.reduceBEq]
      refine .done (hK _ ?_); clear hK K; simp only [thenQ, blockQ]
      refine AW.ret ?_
      simp only [blockQ, thenQ, bR, Nat.reduceEqDiff, reduceIte, Int.reduceBNe, Int.reduceBEq]
      simp only [typR, e_fin, bR, Nat.reduceEqDiff, reduceIte, Int.reduceBNe, Int.reduceBEq]
      simp [meetR, hw, e_int]
    · cases h
  cases ba
  · refine AW.seq (AW.reg cd38_2 fun K hK => ?_)
    simp only [g38_2, bR, Nat.reduceEqDiff, reduceIte, Int.reduceBNe, Int.reduceBEq]
    refine .done (hK _ ?_); clear hK K; simp only [thenQ, blockQ]
    refine AW.ite ?_
    simp only [condQ, bR, Nat.reduceEqDiff, reduceIte, Int.reduceBNe, Int.reduceBEq]
    refine ⟨fun h => ?_, fun h => ?_⟩
    · refine AW.seq (AW.reg cd38_3 fun K hK => ?_)
      simp only [g38_3, bR, Nat.reduceEqDiff, reduceIte, Int.reduceBNe, Int.reduceBEq]
      simp only [setParts, e_zero6, stR3_6, bR, Nat.reduceEqDiff, reduceIte, Int.reduceBNe, Int.reduceBEq]
      refine .done (hK _ ?_); clear hK K; simp only [thenQ, blockQ]
      refine AW.ret ?_
      simp only [blockQ, thenQ, bR, Nat.reduceEqDiff, reduceIte, Int.reduceBNe, Int.reduceBEq]
      simp only [typR, e_fin, bR, Nat.reduceEqDiff, reduceIte, Int.reduceBNe, Int.reduceBEq]
      simp [meetR, hw, ha, e_int]
    · cases h
  cases bb
  · refine AW.seq (AW.reg cd38_2 fun K hK => ?_)
    simp only [g38_2, bR, Nat.reduceEqDiff, reduceIte, Int.reduceBNe, Int.reduceBEq]
    refine .done (hK _ ?_); clear hK K; simp only [thenQ, blockQ]
    refine AW.ite ?_
    simp only [condQ, bR, Nat.reduceEqDiff, reduceIte, Int.reduceBNe, Int.reduceBEq]
    refine ⟨fun h => ?_, fun h => ?_⟩
    · refine AW.seq (AW.reg cd38_3 fun K hK => ?_)
      simp only [g38_3, bR, Nat.reduceEqDiff, reduceIte, Int.reduceBNe, Int.reduceBEq]
      simp only [setParts, e_zero6, stR3_6, bR, Nat.reduceEqDiff, reduceIte, Int.reduceBNe, Int.reduceBEq]
      refine .done (hK _ ?_); clear hK K; simp only [thenQ, blockQ]
      refine AW.ret ?_
      simp only [blockQ, thenQ, bR, Nat.reduceEqDiff, reduceIte, Int.reduceBNe, Int.reduceBEq]
      simp only [typR, e_fin, bR, Nat.reduceEqDiff, reduceIte, Int.reduceBNe, Int.reduceBEq]
      simp [meetR, hw, ha, hb, e_int]
    · cases h
  refine AW.seq (AW.reg cd38_2 fun K hK => ?_)
  simp only [g38_2, bR, Nat.reduceEqDiff, reduceIte, Int.reduceBNe, Int.reduceBEq]
  refine .done (hK _ ?_); clear hK K; simp only [thenQ, blockQ]
  refine AW.ite ?_
  simp only [condQ, bR, Nat.reduceEqDiff, reduceIte, Int.reduceBNe, Int.reduceBEq]
  refine ⟨fun h => ?_, fun h => ?_⟩
  · cases h
  refine AW.skip ?_; simp only [thenQ, blockQ, reduceIte, Nat.reduceEqDiff]
  refine AW.seq ?_
  refine AW.seq (AW.reg cd38_4 fun K hK => ?_)
  simp only [g38_4, bR, Nat.reduceEqDiff, reduceIte, Int.reduceBNe, Int.reduceBEq]
  try simp only [typR, useR, okR, e_fin, bR, Nat.reduceEqDiff, reduceIte, Int.reduceBNe, Int.reduceBEq]
  refine .flat _ (F89 n 0 2) rfl ?_
  generalize hn : inR 0 2 n = bn
  cases bn
  · try simp only [typR, useR, okR, e_fin, bR, Nat.reduceEqDiff, reduceIte, Int.reduceBNe, Int.reduceBEq]
    refine .done (hK _ ?_); clear hK K; simp only [thenQ, blockQ]
    refine AW.ite ?_
    simp only [condQ, bR, Nat.reduceEqDiff, reduceIte, Int.reduceBNe, Int.reduceBEq]
    refine ⟨fun h => ?_, fun h => ?_⟩
    · refine AW.seq (AW.reg cd38_5 fun K hK => ?_)
      simp only [g38_5, bR, Nat.reduceEqDiff, reduceIte, Int.reduceBNe, Int.reduceBEq]
      simp only [setParts, e_zero6, stR3_6, bR, Nat.reduceEqDiff, reduceIte, Int.reduceBNe, Int.reduceBEq]
      refine .done (hK _ ?_); clear hK K; simp only [thenQ, blockQ]
      refine AW.ret ?_
      simp only [blockQ, thenQ, bR, Nat.reduceEqDiff, reduceIte, Int.reduceBNe, Int.reduceBEq]
      simp only [typR, e_fin, bR, Nat.reduceEqDiff, reduceIte, Int.reduceBNe, Int.reduceBEq]
      simp [meetR, hw, ha, hb, hn, e_int]
    · cases h
  try simp only [typR, useR, okR, e_fin, bR, Nat.reduceEqDiff, reduceIte, Int.reduceBNe, Int.reduceBEq]
  refine .done (hK _ ?_); clear hK K; simp only [thenQ, blockQ]
  refine AW.ite ?_
  simp only [condQ, bR, Nat.reduceEqDiff, reduceIte, Int.reduceBNe, Int.reduceBEq]
  refine ⟨fun h => ?_, fun h => ?_⟩
  · cases h
  refine AW.skip ?_; simp only [thenQ, blockQ, reduceIte, Nat.reduceEqDiff]
  refine AW.seq ?_
  refine AW.seq (AW.reg cd38_6 fun K hK => ?_)
  simp only [g38_6, bR, Nat.reduceEqDiff, reduceIte, Int.reduceBNe, Int.reduceBEq]
  try simp only [typR, useR, okR, e_fin, bR, Nat.reduceEqDiff, reduceIte, Int.reduceBNe, Int.reduceBEq]
  refine .flat _ (F87 w a b ha hb) rfl ?_
  try simp only [typR, useR, okR, e_fin, bR, Nat.reduceEqDiff, reduceIte, Int.reduceBNe, Int.reduceBEq]
  refine .done (hK _ ?_); clear hK K; simp only [thenQ, blockQ]
  refine AW.ite ?_
  simp only [condQ, bR, Nat.reduceEqDiff, reduceIte, Int.reduceBNe, Int.reduceBEq]
  refine ⟨fun h => ?_, fun h => ?_⟩
  · refine AW.seq (AW.reg cd38_7 fun K hK => ?_)
    simp only [g38_7, bR, Nat.reduceEqDiff, reduceIte, Int.reduceBNe, Int.reduceBEq]
    simp only [setParts, e_zero6, stR3_6, bR, Nat.reduceEqDiff, reduceIte, Int.reduceBNe, Int.reduceBEq]
    refine .done (hK _ ?_); clear hK K; simp only [thenQ, blockQ]
    refine AW.ret ?_
    simp only [blockQ, thenQ, bR, Nat.reduceEqDiff, reduceIte, Int.reduceBNe, Int.reduceBEq]
    have h2 : IntKind.i64.wrap (2 * n) < (cnt (apartAt w a b) 6 : Int) := by simpa using h
    simp only [typR, e_fin, bR, Nat.reduceEqDiff, reduceIte, Int.reduceBNe, Int.reduceBEq]
    simp [meetR, hw, ha, hb, hn, h2, e_int]
  have h2 : ¬ IntKind.i64.wrap (2 * n) < (cnt (apartAt w a b) 6 : Int) := by simpa using h
  refine AW.skip ?_; simp only [thenQ, blockQ, reduceIte, Nat.reduceEqDiff]
  refine AW.seq (AW.reg cd38_8 fun K hK => ?_)
  simp only [g38_8, bR, Nat.reduceEqDiff, reduceIte, Int.reduceBNe, Int.reduceBEq]
  simp only [e_zero6, bR, Nat.reduceEqDiff, reduceIte, Int.reduceBNe, Int.reduceBEq]
  refine .done (hK _ ?_); clear hK K; simp only [thenQ, blockQ]
  refine AW.seq (AW.reg cd38_9 fun K hK => ?_)
  simp only [g38_9, bR, Nat.reduceEqDiff, reduceIte, Int.reduceBNe, Int.reduceBEq]
  refine .done (hK _ ?_); clear hK K; simp only [thenQ, blockQ]
  refine AW.seq ?_
  refine AW.seq (AW.reg cd38_10 fun K hK => ?_)
  simp only [g38_10, bR, Nat.reduceEqDiff, reduceIte, Int.reduceBNe, Int.reduceBEq]
  refine .done (hK _ ?_); clear hK K; simp only [thenQ, blockQ]
  refine AW.block (AW.loop (fun i : Nat => mkA [(4, .ptr 4 []), (6, .ptr 6 []), (7, .ptr 7 []), (8, .ptr 8 []), (11, .ptr 11 []), (12, .int .i64 (meetUp w a b i).2), (40, .int .i64 i)] [(4, .box (enc w)), (6, .box (enc a)), (7, .box (enc b)), (8, .box (enc zero6)), (11, .box (enc (meetUp w a b i).1))]) (fun i => i ≤ 6) (fun i => 6 - i) 0 (by omega) ?_ (fun i hi => ?_))
  · simp only [meetUp]
    refine Sub.of_lists ?_ ?_ ?_ ?_ <;> simp [subT, subO, onlyT, onlyO, isIn, look_cons, lookO_cons, lookO_nil, AV.only, AV.onlys, AO.only, onlys_map, onlys_append, e_only, e_int, e_bool]
  refine AW.seq (AW.reg cd38_11 fun K hK => ?_)
  simp only [g38_11, bR, Nat.reduceEqDiff, reduceIte, Int.reduceBNe, Int.reduceBEq]
  refine .done (hK _ ?_); clear hK K; simp only [thenQ, blockQ]
  refine AW.seq ?_
  refine AW.ite ?_
  simp only [condQ, bR, Nat.reduceEqDiff, reduceIte, Int.reduceBNe, Int.reduceBEq]
  refine ⟨fun h => ?_, fun h => ?_⟩
  case refine_2.refine_2 =>
    have h6 : i = 6 := by simp at h; omega
    subst h6
    refine AW.exit ?_; simp only [thenQ, blockQ, reduceIte, Nat.reduceEqDiff]
    refine AW.seq (AW.reg cd38_22 fun K hK => ?_)
    simp only [g38_22, bR, Nat.reduceEqDiff, reduceIte, Int.reduceBNe, Int.reduceBEq]
    simp only [typR, stR3_6, bR, Nat.reduceEqDiff, reduceIte, Int.reduceBNe, Int.reduceBEq]
    refine .done (hK _ ?_); clear hK K; simp only [thenQ, blockQ]
    refine AW.ret ?_
    simp only [blockQ, thenQ, bR, Nat.reduceEqDiff, reduceIte, Int.reduceBNe, Int.reduceBEq]
    simp only [typR, e_fin, bR, Nat.reduceEqDiff, reduceIte, Int.reduceBNe, Int.reduceBEq]
    simp [meetR, hw, ha, hb, hn, h2, e_int]
  have hi6 : i < 6 := by simp at h; omega
  have hle := meetUp_le w a b i
  have hs : meetUp w a b (i + 1) = meetStep w a b (meetUp w a b i) i := rfl
  generalize meetUp w a b i = s at hs hle ⊢
  obtain ⟨r, t⟩ := s
  simp only [meetStep] at hs hle ⊢
  have a1 := okMark_at ha hi6
  have b1 := okMark_at hb hi6
  have a2 := okWear_at hw (show (a.g i).toNat < 5 by omega)
  have b2 := okWear_at hw (show (b.g i).toNat < 5 by omega)
  have ax : sg w a i = w.g (a.g i).toNat := rfl
  have bx : sg w b i = w.g (b.g i).toNat := rfl
  have a3 := bit_ne a2.1 (by omega) a2.2
  have b3 := bit_ne b2.1 (by omega) b2.2
  rw [← ax] at a2 a3
  rw [← bx] at b2 b3
  refine AW.skip ?_; simp only [thenQ, blockQ, reduceIte, Nat.reduceEqDiff]
  refine AW.seq (AW.block ?_)
  refine AW.seq (AW.reg cd38_12 fun K hK => ?_)
  simp only [g38_12, bR, Nat.reduceEqDiff, reduceIte, Int.reduceBNe, Int.reduceBEq]
  refine .done (hK _ ?_); clear hK K; simp only [thenQ, blockQ]
  refine AW.seq (AW.reg cd38_13 fun K hK => ?_)
  simp only [g38_13, bR, Nat.reduceEqDiff, reduceIte, Int.reduceBNe, Int.reduceBEq]
  try simp only [typR, useR, okR, e_fin, bR, Nat.reduceEqDiff, reduceIte, Int.reduceBNe, Int.reduceBEq]
  refine .flat _ (F77 w a i hi6 a1.1 a1.2) rfl ?_
  try simp only [typR, useR, okR, e_fin, bR, Nat.reduceEqDiff, reduceIte, Int.reduceBNe, Int.reduceBEq]
  refine .flat _ (F77 w b i hi6 b1.1 b1.2) rfl ?_
  rw [← ax, ← bx]
  generalize sg w a i = x at *
  generalize sg w b i = y at *
  try simp only [typR, useR, okR, e_fin, bR, Nat.reduceEqDiff, reduceIte, Int.reduceBNe, Int.reduceBEq]
  refine .done (hK _ ?_); clear hK K; simp only [thenQ, blockQ]
  refine AW.block ?_
  refine AW.seq (AW.reg cd38_14 fun K hK => ?_)
  simp only [g38_14, bR, Nat.reduceEqDiff, reduceIte, Int.reduceBNe, Int.reduceBEq]
  refine .flat _ (F78 x y) rfl ?_
  generalize hxy : (band x y != 0) = bxy at hs
  have hbi := band_in x y a2.1 b2.1
  cases bxy
  · try simp only [typR, useR, okR, e_fin, bR, Nat.reduceEqDiff, reduceIte, Int.reduceBNe, Int.reduceBEq]
    refine .done (hK _ ?_); clear hK K; simp only [thenQ, blockQ]
    refine AW.ite ?_
    simp only [condQ, bR, Nat.reduceEqDiff, reduceIte, Int.reduceBNe, Int.reduceBEq]
    refine ⟨fun h => ?_, fun h => ?_⟩
    · cases h
    refine AW.seq (AW.reg cd38_16 fun K hK => ?_)
    simp only [g38_16, bR, Nat.reduceEqDiff, reduceIte, Int.reduceBNe, Int.reduceBEq]
    have h20 : ¬ (2 : Int) = 0 := by decide
    have htm : (t : Int).tmod 2 = ((t % 2 : Nat) : Int) := Int.ofNat_tmod t 2
    simp only [h20, htm, bR, Nat.reduceEqDiff, reduceIte, Int.reduceBNe, Int.reduceBEq]
    refine .done (hK _ ?_); clear hK K; simp only [thenQ, blockQ]
    refine AW.ite ?_
    simp only [condQ, bR, Nat.reduceEqDiff, reduceIte, Int.reduceBNe, Int.reduceBEq]
    refine ⟨fun h => ?_, fun h => ?_⟩
    · have ht : t % 2 = 0 := by
        have h' : (((t % 2 : Nat) : Int) == 0) = true := h
        simp at h'; omega
      rw [if_neg (by simp), if_pos ht] at hs
      have hL := members_pos x a2.1 a3
      have hg := getD0_in hL
      refine AW.seq (AW.reg cd38_17 fun K hK => ?_)
      simp only [g38_17, bR, Nat.reduceEqDiff, reduceIte, Int.reduceBNe, Int.reduceBEq]
      try simp only [typR, useR, okR, e_fin, bR, Nat.reduceEqDiff, reduceIte, Int.reduceBNe, Int.reduceBEq]
      refine .lead _ (F81 x a2.1.1 a2.1.2) ?_
      simp only [isE0 hL, typR, useR, okR, bR, Nat.reduceEqDiff, reduceIte, Int.reduceBNe, Int.reduceBEq]
      have ho : IntKind.i64.wrap (1 * 2 ^ min ((members x 5).getD 0 0).toNat IntKind.i64.bits) = one (members x 5) := rfl
      rw [if_pos hg.1, ho]
      simp only [typR, useR, okR, inB_nat 1 r hi6 rfl, atL_g r hi6, get_g r hi6, stR3_g r hi6, bR, Nat.reduceEqDiff, reduceIte, Int.reduceBNe, Int.reduceBEq]
      refine .done (hK _ ?_); clear hK K; simp only [thenQ, blockQ]
      refine AW.reg cd38_18 fun K hK => ?_
      simp only [g38_18, bR, Nat.reduceEqDiff, reduceIte, Int.reduceBNe, Int.reduceBEq]
      refine .done (hK _ ?_); clear hK K; simp only [thenQ, blockQ]
      refine AW.reg cd38_21 fun K hK => ?_
      simp only [g38_21, bR, Nat.reduceEqDiff, reduceIte, Int.reduceBNe, Int.reduceBEq]
      refine .done (hK _ ?_); clear hK K; simp only [thenQ, blockQ]
      refine ⟨i + 1, by omega, by omega, ?_⟩
      rw [hs, wrap_id _ (by omega) (by omega), wrap_id _ (by omega) (by omega)]
      refine Sub.of_lists ?_ ?_ ?_ ?_ <;> simp [subT, subO, onlyT, onlyO, isIn, look_cons, lookO_cons, lookO_nil, AV.only, AV.onlys, AO.only, onlys_map, onlys_append, e_only, e_int, e_bool]
    · have ht : ¬ t % 2 = 0 := by
        have h' : (((t % 2 : Nat) : Int) == 0) = false := h
        simp at h'; omega
      rw [if_neg (by simp), if_neg ht] at hs
      have hL := members_pos y b2.1 b3
      have hg := getD0_in hL
      refine AW.seq (AW.reg cd38_19 fun K hK => ?_)
      simp only [g38_19, bR, Nat.reduceEqDiff, reduceIte, Int.reduceBNe, Int.reduceBEq]
      try simp only [typR, useR, okR, e_fin, bR, Nat.reduceEqDiff, reduceIte, Int.reduceBNe, Int.reduceBEq]
      refine .lead _ (F81 y b2.1.1 b2.1.2) ?_
      simp only [isE0 hL, typR, useR, okR, bR, Nat.reduceEqDiff, reduceIte, Int.reduceBNe, Int.reduceBEq]
      have ho : IntKind.i64.wrap (1 * 2 ^ min ((members y 5).getD 0 0).toNat IntKind.i64.bits) = one (members y 5) := rfl
      rw [if_pos hg.1, ho]
      simp only [typR, useR, okR, inB_nat 1 r hi6 rfl, atL_g r hi6, get_g r hi6, stR3_g r hi6, bR, Nat.reduceEqDiff, reduceIte, Int.reduceBNe, Int.reduceBEq]
      refine .done (hK _ ?_); clear hK K; simp only [thenQ, blockQ]
      refine AW.reg cd38_20 fun K hK => ?_
      simp only [g38_20, bR, Nat.reduceEqDiff, reduceIte, Int.reduceBNe, Int.reduceBEq]
      refine .done (hK _ ?_); clear hK K; simp only [thenQ, blockQ]
      refine AW.reg cd38_21 fun K hK => ?_
      simp only [g38_21, bR, Nat.reduceEqDiff, reduceIte, Int.reduceBNe, Int.reduceBEq]
      refine .done (hK _ ?_); clear hK K; simp only [thenQ, blockQ]
      refine ⟨i + 1, by omega, by omega, ?_⟩
      rw [hs, wrap_id _ (by omega) (by omega), wrap_id _ (by omega) (by omega)]
      refine Sub.of_lists ?_ ?_ ?_ ?_ <;> simp [subT, subO, onlyT, onlyO, isIn, look_cons, lookO_cons, lookO_nil, AV.only, AV.onlys, AO.only, onlys_map, onlys_append, e_only, e_int, e_bool]
  · rw [if_pos rfl] at hs
    have hz : band x y ≠ 0 := by simpa using hxy
    have hL := members_pos (band x y) hbi hz
    have hg := getD0_in hL
    try simp only [typR, useR, okR, e_fin, bR, Nat.reduceEqDiff, reduceIte, Int.reduceBNe, Int.reduceBEq]
    refine .done (hK _ ?_); clear hK K; simp only [thenQ, blockQ]
    refine AW.ite ?_
    simp only [condQ, bR, Nat.reduceEqDiff, reduceIte, Int.reduceBNe, Int.reduceBEq]
    refine ⟨fun h => ?_, fun h => ?_⟩
    · refine AW.reg cd38_15 fun K hK => ?_
      simp only [g38_15, bR, Nat.reduceEqDiff, reduceIte, Int.reduceBNe, Int.reduceBEq]
      try simp only [typR, useR, okR, e_fin, bR, Nat.reduceEqDiff, reduceIte, Int.reduceBNe, Int.reduceBEq]
      refine .lead _ (F81 (band x y) hbi.1 hbi.2) ?_
      simp only [isE0 hL, typR, useR, okR, bR, Nat.reduceEqDiff, reduceIte, Int.reduceBNe, Int.reduceBEq]
      have ho : IntKind.i64.wrap (1 * 2 ^ min ((members (band x y) 5).getD 0 0).toNat IntKind.i64.bits) = one (members (band x y) 5) := rfl
      rw [if_pos hg.1, ho]
      simp only [typR, useR, okR, inB_nat 1 r hi6 rfl, atL_g r hi6, get_g r hi6, stR3_g r hi6, bR, Nat.reduceEqDiff, reduceIte, Int.reduceBNe, Int.reduceBEq]
      refine .done (hK _ ?_); clear hK K; simp only [thenQ, blockQ]
      refine AW.reg cd38_21 fun K hK => ?_
      simp only [g38_21, bR, Nat.reduceEqDiff, reduceIte, Int.reduceBNe, Int.reduceBEq]
      refine .done (hK _ ?_); clear hK K; simp only [thenQ, blockQ]
      refine ⟨i + 1, by omega, by omega, ?_⟩
      rw [hs, wrap_id _ (by omega) (by omega)]
      refine Sub.of_lists ?_ ?_ ?_ ?_ <;> simp [subT, subO, onlyT, onlyO, isIn, look_cons, lookO_cons, lookO_nil, AV.only, AV.onlys, AO.only, onlys_map, onlys_append, e_only, e_int, e_bool]
    · cases h
end Go.Proofs.Ytkjkbpgdpnapfaa

/-
  WHAT Meet RETURNS IS DUE (in plain data), and the law MarkCosts by contract.
-/
namespace Go.Proofs.Ytkjkbpgdpnapfaa
open Go Go.Abs
open Go.Abs.Enc (enc)
/-- The sign laid at place i. -/
def metV (w : Arr 5 Int) (a b : Arr 6 Int) (i : Nat) : Int :=
  if band (sg w a i) (sg w b i) != 0 then one (members (band (sg w a i) (sg w b i)) 5) else if cnt (apartAt w a b) i % 2 = 0 then one (members (sg w a i) 5) else one (members (sg w b i) 5)
theorem meetUp_eq (w : Arr 5 Int) (a b : Arr 6 Int) : ∀ i, i ≤ 6 → (meetUp w a b i).2 = cnt (apartAt w a b) i ∧ ∀ j, j < i → (meetUp w a b i).1.g j = metV w a b j
  | 0, _ => ⟨rfl, fun j h => absurd h (by omega)⟩
  | i + 1, hi => by
    obtain ⟨h1, h2⟩ := meetUp_eq w a b i (by omega)
    have hap : apartAt w a b i = (band (sg w a i) (sg w b i) == 0) := rfl
    have hv : metV w a b i = if band (sg w a i) (sg w b i) != 0 then one (members (band (sg w a i) (sg w b i)) 5) else if cnt (apartAt w a b) i % 2 = 0 then one (members (sg w a i) 5) else one (members (sg w b i) 5) := rfl
    simp only [meetUp, meetStep, cnt, hap]
    cases hz : band (sg w a i) (sg w b i) == 0 with
    | false =>
      have hz' : (band (sg w a i) (sg w b i) != 0) = true := by simp only [bne, hz]; rfl
      rw [hz'] at hv
      simp only [hz', if_true, Bool.false_eq_true, if_false] at hv ⊢
      refine ⟨h1, fun j hj => ?_⟩
      rw [g_upd _ _ _ _ (by omega)]
      split
      · rename_i e; subst e; exact hv.symm
      · exact h2 j (by omega)
    | true =>
      have hz' : (band (sg w a i) (sg w b i) != 0) = false := by simp only [bne, hz]; rfl
      rw [hz'] at hv
      simp only [hz', Bool.false_eq_true, if_false, if_true] at hv ⊢
      rw [h1]
      split
      · rename_i ht
        rw [if_pos ht] at hv
        refine ⟨rfl, fun j hj => ?_⟩
        simp only
        rw [g_upd _ _ _ _ (by omega)]
        split
        · rename_i e; subst e; exact hv.symm
        · exact h2 j (by omega)
      · rename_i ht
        rw [if_neg ht] at hv
        refine ⟨rfl, fun j hj => ?_⟩
        simp only
        rw [g_upd _ _ _ _ (by omega)]
        split
        · rename_i e; subst e; exact hv.symm
        · exact h2 j (by omega)
def okV (v : Int) : Bool := decide (1 ≤ v) && (decide (v ≤ 31) && (band v (IntKind.i64.wrap (v - 1)) == 0))
theorem one_facts : ∀ x y : Fin 32, (x.1 : Int) ≠ 0 → (y.1 : Int) ≠ 0 →
    (band (x.1 : Int) (y.1 : Int) ≠ 0 → band (x.1 : Int) (one (members (band (x.1 : Int) (y.1 : Int)) 5)) ≠ 0 ∧ band (y.1 : Int) (one (members (band (x.1 : Int) (y.1 : Int)) 5)) ≠ 0 ∧ okV (one (members (band (x.1 : Int) (y.1 : Int)) 5)) = true) ∧
    (band (x.1 : Int) (one (members (x.1 : Int) 5)) ≠ 0 ∧ okV (one (members (x.1 : Int) 5)) = true) := by decide +kernel
theorem one_at {x y : Int} (hx : 0 ≤ x ∧ x ≤ 31) (hy : 0 ≤ y ∧ y ≤ 31) (hx0 : x ≠ 0) (hy0 : y ≠ 0) :
    (band x y ≠ 0 → band x (one (members (band x y) 5)) ≠ 0 ∧ band y (one (members (band x y) 5)) ≠ 0 ∧ okV (one (members (band x y) 5)) = true) ∧ (band x (one (members x 5)) ≠ 0 ∧ okV (one (members x 5)) = true) := by
  have := one_facts ⟨x.toNat, by omega⟩ ⟨y.toNat, by omega⟩
  simp only [show ((x.toNat : Nat) : Int) = x by omega, show ((y.toNat : Nat) : Int) = y by omega] at this
  exact this hx0 hy0
theorem sg_in {w : Arr 5 Int} {a : Arr 6 Int} (hw : okWear w = true) (ha : okMark a = true) {i : Nat} (hi : i < 6) : (0 ≤ sg w a i ∧ sg w a i ≤ 31) ∧ sg w a i ≠ 0 := by
  have a1 := okMark_at ha hi
  have a2 := okWear_at hw (show (a.g i).toNat < 5 by omega)
  exact ⟨a2.1, bit_ne a2.1 (by omega) a2.2⟩
theorem metV_facts {w : Arr 5 Int} {a b : Arr 6 Int} (hw : okWear w = true) (ha : okMark a = true) (hb : okMark b = true) {i : Nat} (hi : i < 6) :
    okV (metV w a b i) = true ∧ (band (sg w a i) (metV w a b i) = 0 → apartAt w a b i = true ∧ ¬ cnt (apartAt w a b) i % 2 = 0) ∧ (band (sg w b i) (metV w a b i) = 0 → apartAt w a b i = true ∧ cnt (apartAt w a b) i % 2 = 0) := by
  have hap : apartAt w a b i = (band (sg w a i) (sg w b i) == 0) := rfl
  obtain ⟨x1, x2⟩ := sg_in hw ha hi
  obtain ⟨y1, y2⟩ := sg_in hw hb hi
  obtain ⟨k1, k2⟩ := one_at x1 y1 x2 y2
  obtain ⟨_, k3⟩ := one_at y1 x1 y2 x2
  rw [hap]
  simp only [metV]
  cases hz : band (sg w a i) (sg w b i) == 0 with
  | false =>
    have hz' : (band (sg w a i) (sg w b i) != 0) = true := by simp only [bne, hz]; rfl
    have hz2 : band (sg w a i) (sg w b i) ≠ 0 := by simpa using hz
    obtain ⟨q1, q2, q3⟩ := k1 hz2
    rw [if_pos hz']
    exact ⟨q3, fun h => absurd h q1, fun h => absurd h q2⟩
  | true =>
    have hz' : ¬ (band (sg w a i) (sg w b i) != 0) = true := by simp only [bne, hz]; decide
    rw [if_neg hz']
    by_cases ht : cnt (apartAt w a b) i % 2 = 0
    · rw [if_pos ht]
      exact ⟨k2.2, fun h => absurd h k2.1, fun _ => ⟨rfl, ht⟩⟩
    · rw [if_neg ht]
      exact ⟨k3.2, fun _ => ⟨rfl, ht⟩, fun h => absurd h k3.1⟩
theorem cnt_odd (p q : Nat → Bool) : ∀ n, (∀ i, i < n → q i = true → p i = true ∧ ¬ cnt p i % 2 = 0) → cnt q n ≤ cnt p n / 2
  | 0, _ => by simp [cnt]
  | n + 1, h => by
    have ih := cnt_odd p q n fun i hi => h i (by omega)
    have hn := h n (by omega)
    simp only [cnt]
    cases hq : q n with
    | true => obtain ⟨h1, h2⟩ := hn hq; simp only [h1, if_true]; omega
    | false => simp only [Bool.false_eq_true, if_false]; split <;> omega
theorem cnt_even (p q : Nat → Bool) : ∀ n, (∀ i, i < n → q i = true → p i = true ∧ cnt p i % 2 = 0) → cnt q n ≤ (cnt p n + 1) / 2
  | 0, _ => by simp [cnt]
  | n + 1, h => by
    have ih := cnt_even p q n fun i hi => h i (by omega)
    have hn := h n (by omega)
    simp only [cnt]
    cases hq : q n with
    | true => obtain ⟨h1, h2⟩ := hn hq; simp only [h1, if_true]; omega
    | false => simp only [Bool.false_eq_true, if_false]; split <;> omega
theorem meet_good {w : Arr 5 Int} {n : Int} {a b : Arr 6 Int} (h : (meetR w n a b).2 = 0) : okMark a = true ∧ okMark b = true ∧ meetsR w n ⟨a, b⟩ (meetR w n a b).1 = true := by
  revert h
  simp only [meetR]
  cases hw : okWear w <;> cases ha : okMark a <;> cases hb : okMark b <;> cases hn : inR 0 2 n <;> simp
  split
  · simp
  rename_i hd
  intro _
  have hn2 : 0 ≤ n ∧ n ≤ 2 := by simpa [inR] using hn
  rw [wrap_id _ (by omega) (by omega)] at hd
  have hg : ∀ j, j < 6 → (meetUp w a b 6).1.g j = metV w a b j := (meetUp_eq w a b 6 (Nat.le_refl _)).2
  have hf := fun (j : Nat) (hj : j < 6) => metV_facts hw ha hb hj
  have hv : ∀ j, j < 6 → okV ((meetUp w a b 6).1.g j) = true := fun j hj => by rw [hg j hj]; exact (hf j hj).1
  have hca : ∀ j, j < 6 → costAt w a (meetUp w a b 6).1 j = true → apartAt w a b j = true ∧ ¬ cnt (apartAt w a b) j % 2 = 0 := fun j hj h => by
    refine (hf j hj).2.1 ?_
    simp only [costAt, beq_iff_eq, hg j hj] at h
    exact h
  have hcb : ∀ j, j < 6 → costAt w b (meetUp w a b 6).1 j = true → apartAt w a b j = true ∧ cnt (apartAt w a b) j % 2 = 0 := fun j hj h => by
    refine (hf j hj).2.2 ?_
    simp only [costAt, beq_iff_eq, hg j hj] at h
    exact h
  have e1 := cnt_odd _ _ 6 hca
  have e2 := cnt_even _ _ 6 hcb
  have hr : okReading (meetUp w a b 6).1 = true := by
    simp only [okReading, List.all_eq_true, List.mem_range]
    intro j hj
    have := hv j hj
    simp only [okV, Bool.and_eq_true, decide_eq_true_eq] at this
    simp [inR, this.1, this.2.1]
  have hs : sharp (meetUp w a b 6).1 = true := by
    simp only [sharp, List.all_eq_true, List.mem_range]
    intro j hj
    have := hv j hj
    simp only [okV, Bool.and_eq_true] at this
    exact this.2.2
  simp only [meetsR, hr, hs, Bool.true_and, Bool.and_eq_true, decide_eq_true_eq, costOf]
  have e3 : (cnt (costAt w a (meetUp w a b 6).1) 6 : Int) ≤ n ∧ (cnt (costAt w b (meetUp w a b 6).1) 6 : Int) ≤ n := by omega
  exact ⟨decide_eq_true e3.1, decide_eq_true e3.2⟩
end Go.Proofs.Ytkjkbpgdpnapfaa

/-
  THE LAW MarkCosts BY CONTRACT.
-/
namespace Go.Proofs.Ytkjkbpgdpnapfaa
open Go Go.Abs
open Go.Abs.Enc (enc)
theorem eqE_b (a b : Bool) : eqE .b (.bool a) (.bool b) = some (a == b) := by simp [eqE]
end Go.Proofs.Ytkjkbpgdpnapfaa

/-
  WHAT NUMBERS DESCRIBE IS IN ORDER (in plain data): wear, marks, single signs.
-/
namespace Go.Proofs.Ytkjkbpgdpnapfaa
open Go Go.Abs
open Go.Abs.Enc (enc)
theorem wear_facts : ∀ k j : Fin 5, (0 ≤ shl 1 k.1 ∧ shl 1 k.1 ≤ 31 ∧ bit (shl 1 k.1) k.1 = true) ∧ (0 ≤ bor (shl 1 k.1) (shl 1 j.1) ∧ bor (shl 1 k.1) (shl 1 j.1) ≤ 31 ∧ bit (bor (shl 1 k.1) (shl 1 j.1)) k.1 = true) := by decide +kernel
theorem wears_g (c : List Int) : ∀ n, n ≤ 5 → ∀ j, j < n → 0 ≤ (wears c n).g j ∧ (wears c n).g j ≤ 31 ∧ bit ((wears c n).g j) j = true
  | 0, _ => fun j h => absurd h (by omega)
  | n + 1, hn => fun j hj => by
    have ih := wears_g c n (by omega)
    have hn5 : n < 5 := by omega
    simp only [wears, wearAt]
    have h0 : 0 ≤ at' c n % 12 := Int.emod_nonneg _ (by decide)
    split
    · rename_i h12
      rw [g_upd _ _ _ _ hn5]
      split
      · rename_i e
        subst e
        rw [g_upd _ _ _ _ hn5, if_pos rfl]
        exact (wear_facts ⟨n, hn5⟩ ⟨(at' c n % 12).toNat, by omega⟩).2
      · rw [g_upd _ _ _ _ hn5, if_neg (by assumption)]
        exact ih j (by omega)
    · rw [g_upd _ _ _ _ hn5]
      split
      · rename_i e
        subst e
        exact (wear_facts ⟨n, hn5⟩ ⟨0, by decide⟩).1
      · exact ih j (by omega)
theorem okWear_wears (c : List Int) : okWear (wears c 5) = true := by
  simp only [okWear, List.all_eq_true, List.mem_range, Bool.and_eq_true]
  intro k hk
  obtain ⟨h1, h2, h3⟩ := wears_g c 5 (Nat.le_refl _) k hk
  simp [inR, h1, h2, h3]
theorem nd_nat (k : Nat) : nd (k : Int) 1 = ((k / 5 : Nat) : Int) ∧ nd (k : Int) 2 = ((k / 5 / 5 : Nat) : Int) ∧ nd (k : Int) 3 = ((k / 5 / 5 / 5 : Nat) : Int) ∧ nd (k : Int) 4 = ((k / 5 / 5 / 5 / 5 : Nat) : Int) ∧ nd (k : Int) 5 = ((k / 5 / 5 / 5 / 5 / 5 : Nat) : Int) := by
  have h : ∀ n : Nat, (n : Int).tdiv 5 = ((n / 5 : Nat) : Int) := fun n => Int.ofNat_tdiv n 5
  simp only [nd, h, and_self]
theorem digits_dgs (k : Nat) : digits (k : Int) 6 = dgs k := by
  obtain ⟨h1, h2, h3, h4, h5⟩ := nd_nat k
  have h : ∀ n : Nat, (n : Int).tmod 5 = ((n % 5 : Nat) : Int) := fun n => Int.ofNat_tmod n 5
  have h0 : nd (k : Int) 0 = k := rfl
  refine arr_ext ?_
  simp only [digits, upd, dgs, dg, h0, h1, h2, h3, h4, h5, h]
  rfl
theorem okMark_digits (n : Int) : okMark (digits (n % 15625) 6) = true := by
  have h0 : 0 ≤ n % 15625 := Int.emod_nonneg _ (by decide)
  have e : n % 15625 = (((n % 15625).toNat : Nat) : Int) := by omega
  rw [e, digits_dgs]
  exact okMark_dgs _
def rUp (seen : List Int) : Nat → Arr 6 Int
  | 0 => zero6
  | i + 1 => upd (rUp seen i) i (shl 1 (at' seen i % 5).toNat)
theorem rUp_g (seen : List Int) : ∀ n, n ≤ 6 → ∀ j, j < n → (rUp seen n).g j = shl 1 (at' seen j % 5).toNat
  | 0, _ => fun j h => absurd h (by omega)
  | n + 1, hn => fun j hj => by
    simp only [rUp]
    rw [g_upd _ _ _ _ (by omega)]
    split
    · rename_i e; subst e; rfl
    · exact rUp_g seen n (by omega) j (by omega)
theorem sign_facts : ∀ k : Fin 5, 1 ≤ shl 1 k.1 ∧ shl 1 k.1 ≤ 31 := by decide +kernel
theorem okReading_rUp (seen : List Int) : okReading (rUp seen 6) = true := by
  simp only [okReading, List.all_eq_true, List.mem_range]
  intro j hj
  have h0 : 0 ≤ at' seen j % 5 := Int.emod_nonneg _ (by decide)
  have h1 : at' seen j % 5 < 5 := Int.emod_lt_of_pos _ (by decide)
  rw [rUp_g seen 6 (Nat.le_refl _) j hj]
  obtain ⟨h2, h3⟩ := sign_facts ⟨(at' seen j % 5).toNat, by omega⟩
  simp only at h2 h3
  simp [inR, h2, h3]
theorem part_facts : ∀ x y : Fin 32, ∀ k : Fin 5, band (x.1 : Int) (y.1 : Int) = 0 → band (x.1 : Int) (shl 1 k.1) = 0 ∨ band (y.1 : Int) (shl 1 k.1) = 0 := by decide +kernel
theorem cnt_add (p q s : Nat → Bool) : ∀ n, (∀ i, i < n → p i = true → q i = true ∨ s i = true) → cnt p n ≤ cnt q n + cnt s n
  | 0, _ => by simp [cnt]
  | n + 1, h => by
    have ih := cnt_add p q s n fun i hi => h i (by omega)
    have hn := h n (by omega)
    simp only [cnt]
    cases hp : p n with
    | true => rcases hn hp with h1 | h1 <;> simp only [h1, if_true] <;> (repeat' split) <;> omega
    | false => simp only [Bool.false_eq_true, if_false]; (repeat' split) <;> omega
theorem costs_part {w : Arr 5 Int} {a b : Arr 6 Int} (hw : okWear w = true) (ha : okMark a = true) (hb : okMark b = true) (seen : List Int) : (cnt (apartAt w a b) 6 : Int) ≤ costOf w a (rUp seen 6) + costOf w b (rUp seen 6) := by
  have := cnt_add (apartAt w a b) (costAt w a (rUp seen 6)) (costAt w b (rUp seen 6)) 6 fun i hi h => by
    have h0 : 0 ≤ at' seen i % 5 := Int.emod_nonneg _ (by decide)
    have h1 : at' seen i % 5 < 5 := Int.emod_lt_of_pos _ (by decide)
    have x1 := (sg_in hw ha hi).1
    have y1 := (sg_in hw hb hi).1
    have hg := rUp_g seen 6 (Nat.le_refl _) i hi
    have hap : band (sg w a i) (sg w b i) = 0 := by simpa [apartAt, sg] using h
    have := part_facts ⟨(sg w a i).toNat, by omega⟩ ⟨(sg w b i).toNat, by omega⟩ ⟨(at' seen i % 5).toNat, by omega⟩
    simp only [show (((sg w a i).toNat : Nat) : Int) = sg w a i by omega, show (((sg w b i).toNat : Nat) : Int) = sg w b i by omega] at this
    rcases this hap with h2 | h2
    · left; simp only [costAt, hg]; exact beq_iff_eq.2 h2
    · right; simp only [costAt, hg]; exact beq_iff_eq.2 h2
  simp only [costOf]
  omega
end Go.Proofs.Ytkjkbpgdpnapfaa

/-
  THE LAW MarkApart BY CONTRACT.
-/
namespace Go.Proofs.Ytkjkbpgdpnapfaa
open Go Go.Abs
open Go.Abs.Enc (enc)
theorem stR3_5 {A : AState} {n : Nat} {b : AV} {v u : Arr 5 Int} {rest : List G} : stR3 A (some 5) n [] b (enc v) rest (some (enc u)) = aops rest (A.setO n (.box (enc v))) := by
  rw [stR3_ok (e_isVal _) (by rw [e_okS]; rfl) ((e_sh _).trans (e_sh _).symm), setAt_nil]
theorem cost_in (w : Arr 5 Int) (a r : Arr 6 Int) : 0 ≤ costOf w a r ∧ costOf w a r ≤ 6 := by
  have := cnt_le (costAt w a r) 6
  simp only [costOf]; omega
theorem meet_iff {w : Arr 5 Int} {a b : Arr 6 Int} (hw : okWear w = true) (ha : okMark a = true) (hb : okMark b = true) {k : Int} (hk : 0 ≤ k ∧ k ≤ 2) : ((meetR w k a b).2 == 0) = decide ((cnt (apartAt w a b) 6 : Int) ≤ IntKind.i64.wrap (2 * k)) := by
  have hn : inR 0 2 k = true := by simp [inR, hk.1, hk.2]
  simp only [meetR, hw, ha, hb, hn, if_true]
  split
  · rename_i h
    have : ¬ (cnt (apartAt w a b) 6 : Int) ≤ IntKind.i64.wrap (2 * k) := by omega
    simp [this]
  · rename_i h
    have : (cnt (apartAt w a b) 6 : Int) ≤ IntKind.i64.wrap (2 * k) := by omega
    simp [this]
theorem F7 (l : List Int) (n2 : Arr 2 Int) (seen : List Int) (hl : l.length ≤ 4611686018427387904) (hs : seen.length ≤ 4611686018427387904) : Ctr Try.prog 7 [enc l, enc n2, enc seen] (enc true) := by
  refine Ctr.mk' Try.func7 ca7 cc7 cr7 (Nat.le_of_ble_eq_true rfl) (fun hwf W0 D0 E1 => ?_)
  simp only [c7, r7, idx, Nat.zero_add, Nat.reduceAdd]
  obtain ⟨w, hwd⟩ : ∃ w, w = wears l 5 := ⟨_, rfl⟩
  obtain ⟨a, had⟩ : ∃ a, a = digits (n2.g 0 % 15625) 6 := ⟨_, rfl⟩
  obtain ⟨b, hbd⟩ : ∃ b, b = digits (n2.g 1 % 15625) 6 := ⟨_, rfl⟩
  have hw : okWear w = true := by rw [hwd]; exact okWear_wears l
  have ha : okMark a = true := by rw [had]; exact okMark_digits _
  have hb : okMark b = true := by rw [hbd]; exact okMark_digits _
  have hdist : distR w a b = ((cnt (apartAt w a b) 6 : Int), 0) := by simp [distR, hw, ha, hb]
  have hr := okReading_rUp seen
  have hca : costR w a (rUp seen 6) = (costOf w a (rUp seen 6), 0) := by simp [costR, hw, ha, hr]
  have hcb : costR w b (rUp seen 6) = (costOf w b (rUp seen 6), 0) := by simp [costR, hw, hb, hr]
  have hpart := costs_part hw ha hb seen
  have xin := cost_in w a (rUp seen 6)
  have yin := cost_in w b (rUp seen 6)
  have din : (cnt (apartAt w a b) 6 : Int) ≤ 6 := by have := cnt_le (apartAt w a b) 6; omega
  have t0 : (0 : Int).toNat = 0 := rfl
  have t1 : (1 : Int).toNat = 1 := rfl
  refine AW.seq (AW.reg cd7_0 fun K hK => ?_)
  simp only [g7_0, bR, Nat.reduceEqDiff, reduceIte, Int.reduceBNe, Int.reduceBEq]
  try simp only [e_isVal, bR, Nat.reduceEqDiff, reduceIte, Int.reduceBNe, Int.reduceBEq]
  refine .done (hK _ ?_); clear hK K; simp only [thenQ, blockQ]
  refine AW.seq (AW.reg cd7_1 fun K hK => ?_)
  simp only [g7_1, bR, Nat.reduceEqDiff, reduceIte, Int.reduceBNe, Int.reduceBEq]
  try simp only [typR, useR, okR, e_fin, bR, Nat.reduceEqDiff, reduceIte, Int.reduceBNe, Int.reduceBEq]
  refine .lead _ (F34 l hl) ?_
  simp only [e_a5, ← hwd, stR3_5, bR, Nat.reduceEqDiff, reduceIte, Int.reduceBNe, Int.reduceBEq]
  refine .done (hK _ ?_); clear hK K; simp only [thenQ, blockQ]
  refine AW.seq (AW.reg cd7_2 fun K hK => ?_)
  simp only [g7_2, bR, Nat.reduceEqDiff, reduceIte, Int.reduceBNe, Int.reduceBEq]
  simp only [typR, useR, okR, inB_int 1 n2 (show (0 : Int) ≤ 0 ∧ (0 : Int) < (2 : Nat) by decide) rfl, t0, atL_g n2 (show 0 < 2 by decide), bR, Nat.reduceEqDiff, reduceIte, Int.reduceBNe, Int.reduceBEq]
  refine .flat _ (F23 (n2.g 0) 15625 (by decide) (by decide)) rfl ?_
  try simp only [typR, useR, okR, e_fin, bR, Nat.reduceEqDiff, reduceIte, Int.reduceBNe, Int.reduceBEq]
  refine .lead _ (F35 (n2.g 0 % 15625)) ?_
  simp only [e_a6, ← had, stR3_6, bR, Nat.reduceEqDiff, reduceIte, Int.reduceBNe, Int.reduceBEq]
  refine .done (hK _ ?_); clear hK K; simp only [thenQ, blockQ]
  refine AW.seq (AW.reg cd7_3 fun K hK => ?_)
  simp only [g7_3, bR, Nat.reduceEqDiff, reduceIte, Int.reduceBNe, Int.reduceBEq]
  simp only [typR, useR, okR, inB_int 1 n2 (show (0 : Int) ≤ 1 ∧ (1 : Int) < (2 : Nat) by decide) rfl, t1, atL_g n2 (show 1 < 2 by decide), bR, Nat.reduceEqDiff, reduceIte, Int.reduceBNe, Int.reduceBEq]
  refine .flat _ (F23 (n2.g 1) 15625 (by decide) (by decide)) rfl ?_
  try simp only [typR, useR, okR, e_fin, bR, Nat.reduceEqDiff, reduceIte, Int.reduceBNe, Int.reduceBEq]
  refine .lead _ (F35 (n2.g 1 % 15625)) ?_
  simp only [e_a6, ← hbd, stR3_6, bR, Nat.reduceEqDiff, reduceIte, Int.reduceBNe, Int.reduceBEq]
  refine .done (hK _ ?_); clear hK K; simp only [thenQ, blockQ]
  refine AW.seq (AW.reg cd7_4 fun K hK => ?_)
  simp only [g7_4, bR, Nat.reduceEqDiff, reduceIte, Int.reduceBNe, Int.reduceBEq]
  try simp only [typR, useR, okR, e_fin, bR, Nat.reduceEqDiff, reduceIte, Int.reduceBNe, Int.reduceBEq]
  refine .lead _ (F36 w a b) ?_
  simp only [hdist, typR, bR, Nat.reduceEqDiff, reduceIte, Int.reduceBNe, Int.reduceBEq]
  refine .done (hK _ ?_); clear hK K; simp only [thenQ, blockQ]
  obtain ⟨d, hd⟩ : ∃ d : Int, d = (cnt (apartAt w a b) 6 : Int) := ⟨_, rfl⟩
  rw [← hd] at hpart din
  rw [← hd]
  refine AW.seq ?_
  refine AW.seq (AW.reg cd7_5 fun K hK => ?_)
  simp only [g7_5, bR, Nat.reduceEqDiff, reduceIte, Int.reduceBNe, Int.reduceBEq]
  refine .done (hK _ ?_); clear hK K; simp only [thenQ, blockQ]
  refine AW.ite ?_
  simp only [condQ, bR, Nat.reduceEqDiff, reduceIte, Int.reduceBNe, Int.reduceBEq]
  refine ⟨fun h => ?_, fun h => ?_⟩
  · cases h
  refine AW.skip ?_; simp only [thenQ, blockQ, reduceIte, Nat.reduceEqDiff]
  refine AW.seq (AW.reg cd7_7 fun K hK => ?_)
  simp only [g7_7, bR, Nat.reduceEqDiff, reduceIte, Int.reduceBNe, Int.reduceBEq]
  simp only [e_a6, bR, Nat.reduceEqDiff, reduceIte, Int.reduceBNe, Int.reduceBEq]
  refine .done (hK _ ?_); clear hK K; simp only [thenQ, blockQ]
  refine AW.seq ?_
  refine AW.seq (AW.reg cd7_8 fun K hK => ?_)
  simp only [g7_8, bR, Nat.reduceEqDiff, reduceIte, Int.reduceBNe, Int.reduceBEq]
  refine .done (hK _ ?_); clear hK K; simp only [thenQ, blockQ]
  refine AW.block (AW.loop (fun i : Nat => mkA [(2, enc seen), (7, .ptr 7 []), (8, .ptr 8 []), (9, .ptr 9 []), (10, .int .i64 d), (12, .ptr 12 []), (13, .int .i64 i)] [(7, .box (enc w)), (8, .box (enc a)), (9, .box (enc b)), (12, .box (enc (rUp seen i)))]) (fun i => i ≤ 6) (fun i => 6 - i) 0 (by omega) ?_ (fun i hi => ?_))
  · have : rUp seen 0 = a6 0 0 0 0 0 0 := rfl
    rw [this]
    refine Sub.of_lists ?_ ?_ ?_ ?_ <;> simp [subT, subO, onlyT, onlyO, isIn, look_cons, lookO_cons, lookO_nil, AV.only, AV.onlys, AO.only, onlys_map, onlys_append, e_only, e_int, e_bool]
  refine AW.seq (AW.seq ?_)
  refine AW.reg cd7_9 fun K hK => ?_
  simp only [g7_9, bR, Nat.reduceEqDiff, reduceIte, Int.reduceBNe, Int.reduceBEq]
  try simp only [typR, useR, okR, e_fin, bR, Nat.reduceEqDiff, reduceIte, Int.reduceBNe, Int.reduceBEq]
  refine .done (hK _ ?_); clear hK K; simp only [thenQ, blockQ]
  refine AW.ite ?_
  simp only [condQ, bR, Nat.reduceEqDiff, reduceIte, Int.reduceBNe, Int.reduceBEq]
  refine ⟨fun h => ?_, fun h => ?_⟩
  · have hi6 : i < 6 := by simp at h; omega
    have h0 : 0 ≤ at' seen i % 5 := Int.emod_nonneg _ (by decide)
    have hv : IntKind.i64.wrap (1 * 2 ^ min (at' seen i % 5).toNat IntKind.i64.bits) = shl 1 (at' seen i % 5).toNat := rfl
    refine AW.skip ?_; simp only [thenQ, blockQ, reduceIte, Nat.reduceEqDiff]
    refine AW.seq (AW.block ?_)
    refine AW.reg cd7_10 fun K hK => ?_
    simp only [g7_10, bR, Nat.reduceEqDiff, reduceIte, Int.reduceBNe, Int.reduceBEq]
    try simp only [typR, useR, okR, e_fin, bR, Nat.reduceEqDiff, reduceIte, Int.reduceBNe, Int.reduceBEq]
    refine .flat _ (F25 seen i hs) rfl ?_
    try simp only [typR, useR, okR, e_fin, bR, Nat.reduceEqDiff, reduceIte, Int.reduceBNe, Int.reduceBEq]
    refine .flat _ (F23 (at' seen i) 5 (by decide) (by decide)) rfl ?_
    try simp only [typR, useR, okR, e_fin, bR, Nat.reduceEqDiff, reduceIte, Int.reduceBNe, Int.reduceBEq]
    rw [if_pos h0, hv]
    simp only [typR, useR, okR, inB_nat 1 (rUp seen i) hi6 rfl, atL_g (rUp seen i) hi6, get_g (rUp seen i) hi6, stR3_g (rUp seen i) hi6, bR, Nat.reduceEqDiff, reduceIte, Int.reduceBNe, Int.reduceBEq]
    refine .done (hK _ ?_); clear hK K; simp only [thenQ, blockQ]
    refine AW.reg cd7_11 fun K hK => ?_
    simp only [g7_11, bR, Nat.reduceEqDiff, reduceIte, Int.reduceBNe, Int.reduceBEq]
    refine .done (hK _ ?_); clear hK K; simp only [thenQ, blockQ]
    refine ⟨i + 1, by omega, by omega, ?_⟩
    rw [wrap_id _ (by omega) (by omega), rUp]
    refine Sub.of_lists ?_ ?_ ?_ ?_ <;> simp [subT, subO, onlyT, onlyO, isIn, look_cons, lookO_cons, lookO_nil, AV.only, AV.onlys, AO.only, onlys_map, onlys_append, e_only, e_int, e_bool]
  have hi6 : i = 6 := by simp at h; omega
  subst hi6
  refine AW.exit ?_; simp only [thenQ, blockQ, reduceIte, Nat.reduceEqDiff]
  refine AW.seq (AW.reg cd7_12 fun K hK => ?_)
  simp only [g7_12, bR, Nat.reduceEqDiff, reduceIte, Int.reduceBNe, Int.reduceBEq]
  try simp only [typR, useR, okR, e_fin, bR, Nat.reduceEqDiff, reduceIte, Int.reduceBNe, Int.reduceBEq]
  refine .lead _ (F37 w a (rUp seen 6)) ?_
  simp only [hca, typR, bR, Nat.reduceEqDiff, reduceIte, Int.reduceBNe, Int.reduceBEq]
  refine .done (hK _ ?_); clear hK K; simp only [thenQ, blockQ]
  refine AW.seq (AW.reg cd7_13 fun K hK => ?_)
  simp only [g7_13, bR, Nat.reduceEqDiff, reduceIte, Int.reduceBNe, Int.reduceBEq]
  try simp only [typR, useR, okR, e_fin, bR, Nat.reduceEqDiff, reduceIte, Int.reduceBNe, Int.reduceBEq]
  refine .lead _ (F37 w b (rUp seen 6)) ?_
  simp only [hcb, typR, bR, Nat.reduceEqDiff, reduceIte, Int.reduceBNe, Int.reduceBEq]
  refine .done (hK _ ?_); clear hK K; simp only [thenQ, blockQ]
  generalize costOf w a (rUp seen 6) = x at *
  generalize costOf w b (rUp seen 6) = y at *
  refine AW.seq ?_
  refine AW.seq (AW.reg cd7_14 fun K hK => ?_)
  simp only [g7_14, bR, Nat.reduceEqDiff, reduceIte, Int.reduceBNe, Int.reduceBEq]
  try simp only [typR, useR, okR, e_fin, bR, Nat.reduceEqDiff, reduceIte, Int.reduceBNe, Int.reduceBEq]
  have hxy : decide (IntKind.i64.wrap (x + y) < d) = false := by rw [wrap_id _ (by omega) (by omega)]; exact decide_eq_false (by omega)
  try simp only [hxy, bne_self_eq_false, bR, Nat.reduceEqDiff, reduceIte, Int.reduceBNe, Int.reduceBEq]
  refine .done (hK _ ?_); clear hK K; simp only [thenQ, blockQ]
  refine AW.ite ?_
  simp only [condQ, bR, Nat.reduceEqDiff, reduceIte, Int.reduceBNe, Int.reduceBEq]
  refine ⟨fun h => ?_, fun h => ?_⟩
  · first | cases h | simp at h
  refine AW.skip ?_; simp only [thenQ, blockQ, reduceIte, Nat.reduceEqDiff]
  refine AW.seq ?_
  refine AW.seq (AW.reg cd7_16 fun K hK => ?_)
  simp only [g7_16, bR, Nat.reduceEqDiff, reduceIte, Int.reduceBNe, Int.reduceBEq]
  refine .done (hK _ ?_); clear hK K; simp only [thenQ, blockQ]
  refine AW.block (AW.loop (fun k : Nat => mkA [(7, .ptr 7 []), (8, .ptr 8 []), (9, .ptr 9 []), (10, .int .i64 d), (14, .int .i64 x), (16, .int .i64 y), (18, .int .i64 k)] [(7, .box (enc w)), (8, .box (enc a)), (9, .box (enc b))]) (fun k => k ≤ 3) (fun k => 3 - k) 0 (by omega) ?_ (fun k hk => ?_))
  · refine Sub.of_lists ?_ ?_ ?_ ?_ <;> simp [subT, subO, onlyT, onlyO, isIn, look_cons, lookO_cons, lookO_nil, AV.only, AV.onlys, AO.only, onlys_map, onlys_append, e_only, e_int, e_bool]
  refine AW.seq (AW.seq ?_)
  refine AW.reg cd7_17 fun K hK => ?_
  simp only [g7_17, bR, Nat.reduceEqDiff, reduceIte, Int.reduceBNe, Int.reduceBEq]
  try simp only [typR, useR, okR, e_fin, bR, Nat.reduceEqDiff, reduceIte, Int.reduceBNe, Int.reduceBEq]
  refine .done (hK _ ?_); clear hK K; simp only [thenQ, blockQ]
  refine AW.ite ?_
  simp only [condQ, bR, Nat.reduceEqDiff, reduceIte, Int.reduceBNe, Int.reduceBEq]
  refine ⟨fun h => ?_, fun h => ?_⟩
  · have hk2 : k ≤ 2 := by simp at h; omega
    have hiff := meet_iff hw ha hb (k := (k : Int)) ⟨by omega, by omega⟩
    rw [← hd] at hiff
    have hwr : IntKind.i64.wrap (2 * (k : Int)) = 2 * k := wrap_id _ (by omega) (by omega)
    rw [hwr] at hiff
    refine AW.skip ?_; simp only [thenQ, blockQ, reduceIte, Nat.reduceEqDiff]
    refine AW.seq (AW.block ?_)
    refine AW.seq (AW.reg cd7_18 fun K hK => ?_)
    simp only [g7_18, bR, Nat.reduceEqDiff, reduceIte, Int.reduceBNe, Int.reduceBEq]
    try simp only [typR, useR, okR, e_fin, bR, Nat.reduceEqDiff, reduceIte, Int.reduceBNe, Int.reduceBEq]
    refine .lead _ (F38 w k a b) ?_
    simp only [typR, e_a6, stR3_6, bR, Nat.reduceEqDiff, reduceIte, Int.reduceBNe, Int.reduceBEq]
    refine .done (hK _ ?_); clear hK K; simp only [thenQ, blockQ]
    generalize he : (meetR w k a b).2 = e at hiff
    obtain ⟨m1, hm1⟩ : ∃ m1, (meetR w k a b).1 = m1 := ⟨_, rfl⟩
    rw [hm1]
    refine AW.seq ?_
    refine AW.seq (AW.via (mkA [(114, .bool false), (7, .ptr 7 []), (8, .ptr 8 []), (9, .ptr 9 []), (10, .int .i64 d), (14, .int .i64 x), (16, .int .i64 y), (18, .int .i64 k), (19, .ptr 19 []), (20, .int .i64 e)] [(19, .box (enc m1)), (7, .box (enc w)), (8, .box (enc a)), (9, .box (enc b))]) ?_ fun B hB => ?_)
    · refine AW.reg cd7_19 fun K hK => ?_
      simp only [g7_19, bR, Nat.reduceEqDiff, reduceIte, Int.reduceBNe, Int.reduceBEq]
      simp only [eqE_b, hwr, hiff, BEq.rfl, bR, Nat.reduceEqDiff, reduceIte, Int.reduceBNe, Int.reduceBEq]
      by_cases h0 : e = 0
      · have hz : (e != 0) = false := by simp [h0]
        generalize decide (x ≤ (k : Int)) = b1
        cases b1
        · try simp only [typR, useR, okR, e_fin, bR, Nat.reduceEqDiff, reduceIte, Int.reduceBNe, Int.reduceBEq]
          refine .done (hK _ ?_); clear hK K; simp only [thenQ, blockQ]
          refine Sub.of_lists ?_ ?_ ?_ ?_ <;> simp [subT, subO, onlyT, onlyO, isIn, look_cons, lookO_cons, lookO_nil, AV.only, AV.onlys, AO.only, onlys_map, onlys_append, e_only, e_int, e_bool]
        · try simp only [typR, useR, okR, e_fin, bR, Nat.reduceEqDiff, reduceIte, Int.reduceBNe, Int.reduceBEq]
          generalize decide (y ≤ (k : Int)) = b2
          cases b2
          · try simp only [typR, useR, okR, e_fin, bR, Nat.reduceEqDiff, reduceIte, Int.reduceBNe, Int.reduceBEq]
            refine .done (hK _ ?_); clear hK K; simp only [thenQ, blockQ]
            refine Sub.of_lists ?_ ?_ ?_ ?_ <;> simp [subT, subO, onlyT, onlyO, isIn, look_cons, lookO_cons, lookO_nil, AV.only, AV.onlys, AO.only, onlys_map, onlys_append, e_only, e_int, e_bool]
          · simp only [hz, bR, Nat.reduceEqDiff, reduceIte, Int.reduceBNe, Int.reduceBEq]
            refine .done (hK _ ?_); clear hK K; simp only [thenQ, blockQ]
            refine Sub.of_lists ?_ ?_ ?_ ?_ <;> simp [subT, subO, onlyT, onlyO, isIn, look_cons, lookO_cons, lookO_nil, AV.only, AV.onlys, AO.only, onlys_map, onlys_append, e_only, e_int, e_bool]
      · have hd2 : ¬ d ≤ 2 * (k : Int) := by
          have : (e == 0) = false := by simpa using h0
          rw [this] at hiff
          exact of_decide_eq_false hiff.symm
        by_cases hx : x ≤ (k : Int)
        · have hy : ¬ y ≤ (k : Int) := by omega
          simp only [decide_eq_true hx, decide_eq_false hy, bR, Nat.reduceEqDiff, reduceIte, Int.reduceBNe, Int.reduceBEq]
          refine .done (hK _ ?_); clear hK K; simp only [thenQ, blockQ]
          refine Sub.of_lists ?_ ?_ ?_ ?_ <;> simp [subT, subO, onlyT, onlyO, isIn, look_cons, lookO_cons, lookO_nil, AV.only, AV.onlys, AO.only, onlys_map, onlys_append, e_only, e_int, e_bool]
        · simp only [decide_eq_false hx, bR, Nat.reduceEqDiff, reduceIte, Int.reduceBNe, Int.reduceBEq]
          refine .done (hK _ ?_); clear hK K; simp only [thenQ, blockQ]
          refine Sub.of_lists ?_ ?_ ?_ ?_ <;> simp [subT, subO, onlyT, onlyO, isIn, look_cons, lookO_cons, lookO_nil, AV.only, AV.onlys, AO.only, onlys_map, onlys_append, e_only, e_int, e_bool]
    simp only [thenQ, blockQ]
    refine AW.sub hB ?_
    refine AW.ite ?_
    simp only [condQ, bR, Nat.reduceEqDiff, reduceIte, Int.reduceBNe, Int.reduceBEq]
    refine ⟨fun h => ?_, fun h => ?_⟩
    · cases h
    refine AW.skip ?_; simp only [thenQ, blockQ, reduceIte, Nat.reduceEqDiff]
    refine AW.seq ?_
    refine AW.seq (AW.reg cd7_21 fun K hK => ?_)
    simp only [g7_21, bR, Nat.reduceEqDiff, reduceIte, Int.reduceBNe, Int.reduceBEq]
    refine .done (hK _ ?_); clear hK K; simp only [thenQ, blockQ]
    by_cases h0 : e = 0
    · subst h0
      obtain ⟨_, _, gm⟩ := meet_good he
      rw [hm1] at gm
      simp only [meetsR, Bool.and_eq_true, decide_eq_true_eq] at gm
      obtain ⟨g1, _, g2, g3⟩ := gm
      have hc1 : costR w a m1 = (costOf w a m1, 0) := by simp [costR, hw, ha, g1]
      have hc2 : costR w b m1 = (costOf w b m1, 0) := by simp [costR, hw, hb, g1]
      refine AW.ite ?_
      simp only [condQ, bR, Nat.reduceEqDiff, reduceIte, Int.reduceBNe, Int.reduceBEq]
      refine ⟨fun h => ?_, fun h => ?_⟩
      · cases h
      refine AW.skip ?_; simp only [thenQ, blockQ, reduceIte, Nat.reduceEqDiff]
      refine AW.seq (AW.reg cd7_22 fun K hK => ?_)
      simp only [g7_22, bR, Nat.reduceEqDiff, reduceIte, Int.reduceBNe, Int.reduceBEq]
      try simp only [typR, useR, okR, e_fin, bR, Nat.reduceEqDiff, reduceIte, Int.reduceBNe, Int.reduceBEq]
      refine .lead _ (F37 w a m1) ?_
      simp only [hc1, typR, bR, Nat.reduceEqDiff, reduceIte, Int.reduceBNe, Int.reduceBEq]
      refine .done (hK _ ?_); clear hK K; simp only [thenQ, blockQ]
      refine AW.seq (AW.reg cd7_23 fun K hK => ?_)
      simp only [g7_23, bR, Nat.reduceEqDiff, reduceIte, Int.reduceBNe, Int.reduceBEq]
      try simp only [typR, useR, okR, e_fin, bR, Nat.reduceEqDiff, reduceIte, Int.reduceBNe, Int.reduceBEq]
      refine .lead _ (F37 w b m1) ?_
      simp only [hc2, typR, bR, Nat.reduceEqDiff, reduceIte, Int.reduceBNe, Int.reduceBEq]
      refine .done (hK _ ?_); clear hK K; simp only [thenQ, blockQ]
      have h3 : decide ((k : Int) < costOf w a m1) = false := decide_eq_false (by omega)
      have h4 : decide ((k : Int) < costOf w b m1) = false := decide_eq_false (by omega)
      refine AW.seq ?_
      refine AW.reg cd7_24 fun K hK => ?_
      simp only [g7_24, bR, Nat.reduceEqDiff, reduceIte, Int.reduceBNe, Int.reduceBEq]
      try simp only [typR, useR, okR, e_fin, bR, Nat.reduceEqDiff, reduceIte, Int.reduceBNe, Int.reduceBEq]
      try simp only [h3, h4, bR, Nat.reduceEqDiff, reduceIte, Int.reduceBNe, Int.reduceBEq]
      refine .done (hK _ ?_); clear hK K; simp only [thenQ, blockQ]
      refine AW.ite ?_
      simp only [condQ, bR, Nat.reduceEqDiff, reduceIte, Int.reduceBNe, Int.reduceBEq]
      refine ⟨fun h => ?_, fun h => ?_⟩
      · first | cases h | simp at h
      refine AW.skip ?_; simp only [thenQ, blockQ, reduceIte, Nat.reduceEqDiff]
      refine AW.reg cd7_26 fun K hK => ?_
      simp only [g7_26, bR, Nat.reduceEqDiff, reduceIte, Int.reduceBNe, Int.reduceBEq]
      refine .done (hK _ ?_); clear hK K; simp only [thenQ, blockQ]
      refine ⟨k + 1, by omega, by omega, ?_⟩
      rw [wrap_id _ (by omega) (by omega)]
      refine Sub.of_lists ?_ ?_ ?_ ?_ <;> simp [subT, subO, onlyT, onlyO, isIn, look_cons, lookO_cons, lookO_nil, AV.only, AV.onlys, AO.only, onlys_map, onlys_append, e_only, e_int, e_bool]
    · refine AW.ite ?_
      simp only [condQ, bR, Nat.reduceEqDiff, reduceIte, Int.reduceBNe, Int.reduceBEq]
      refine ⟨fun h => ?_, fun h => ?_⟩
      · refine AW.exit ?_; simp only [thenQ, blockQ, reduceIte, Nat.reduceEqDiff]
        refine AW.reg cd7_26 fun K hK => ?_
        simp only [g7_26, bR, Nat.reduceEqDiff, reduceIte, Int.reduceBNe, Int.reduceBEq]
        refine .done (hK _ ?_); clear hK K; simp only [thenQ, blockQ]
        refine ⟨k + 1, by omega, by omega, ?_⟩
        rw [wrap_id _ (by omega) (by omega)]
        refine Sub.of_lists ?_ ?_ ?_ ?_ <;> simp [subT, subO, onlyT, onlyO, isIn, look_cons, lookO_cons, lookO_nil, AV.only, AV.onlys, AO.only, onlys_map, onlys_append, e_only, e_int, e_bool]
      · exact absurd h (by simpa using h0)
  · refine AW.exit ?_; simp only [thenQ, blockQ, reduceIte, Nat.reduceEqDiff]
    refine AW.seq (AW.reg cd7_27 fun K hK => ?_)
    simp only [g7_27, bR, Nat.reduceEqDiff, reduceIte, Int.reduceBNe, Int.reduceBEq]
    refine .flat _ F21 rfl ?_
    try simp only [typR, useR, okR, e_fin, bR, Nat.reduceEqDiff, reduceIte, Int.reduceBNe, Int.reduceBEq]
    refine .done (hK _ ?_); clear hK K; simp only [thenQ, blockQ]
    refine AW.ret ?_
    simp only [blockQ, thenQ, bR, Nat.reduceEqDiff, reduceIte, Int.reduceBNe, Int.reduceBEq]
end Go.Proofs.Ytkjkbpgdpnapfaa

/-
  THE LAWS' ARGUMENTS, TAKEN AS DATA: the types of the statements.
-/
namespace Go.Proofs.Ytkjkbpgdpnapfaa
open Go Go.Abs Go.ChangeShapes Go.WideShapes Go.RowKit
open Go.Abs.Enc (enc)
theorem Try.own : ownKnob Try.prog.godebug = none := by kernel_rfl
theorem Try.laidOut : laidOutB Try.prog = true := by kernel_rfl
theorem oInt : Opens Try.prog 3 Int := opens_int (by kernel_rfl) (by kernel_rfl)
theorem oInts : Opens Try.prog 29 (List Int) := opens_list (by kernel_rfl) oInt (by kernel_rfl)
theorem rvs3 {w : World} {D : Dom} {E : Env} {x y z : AV} {a b c : Value} (hx : ∃ cs, isPack x a cs ∧ rc w D E x cs) (hy : ∃ cs, isPack y b cs ∧ rc w D E y cs) (hz : ∃ cs, isPack z c cs ∧ rc w D E z cs) : rvs w D E [x, y, z] [a, b, c] := by
  obtain ⟨c1, h1, h2⟩ := hx
  obtain ⟨c2, h3, h4⟩ := hy
  obtain ⟨c3, h5, h6⟩ := hz
  simp only [rvs]
  exact ⟨a, [b, c], c1, rfl, h1, h2, b, [c], c2, rfl, h3, h4, c, [], c3, rfl, h5, h6, rfl⟩
end Go.Proofs.Ytkjkbpgdpnapfaa

/-
  PROVED HERE: the law MarkApart returns true for every input, and each argument reads afterwards as it read before. Conditions: none beyond the statement's own.
-/
namespace Go.Proofs.Ytkjkbpgdpnapfaa
open Go Go.Abs Go.ChangeShapes Go.WideShapes Go.ChangeAt Go.RowKit
open Go.Abs.Enc (enc)
theorem oTwo : Opens Try.prog 46 (Arr 2 Int) := opens_arr (isAr_spec (by kernel_rfl)) oInt (by kernel_rfl) (by decide)
set_option maxRecDepth 100000 in
theorem markApart_lifted (os : Os) (started : os.Started) (H : Type) (enc0 : TypeId × Value → H) :
    ReturnsInHanded {} Try.checked os 7 .any (Rows.markApartSpec.pre6 enc0 Try.prog Try.f7 Rows.markApartRow.domain false) (Rows.markApartSpec.post enc0 Try.prog Try.f7 false true false false) := by
  refine returnsInHanded_of_change_sized (C := Try.checked) Try.own started (by kernel_rfl) Try.func7
    (ChangeSpec.witness6 (enc := enc0) (C := Try.checked) false ⟨#[], #[.slice none 0 0, .agg #[.int .i64 0, .int .i64 0], .slice none 0 0], []⟩ 8 (by kernel_rfl) (by kernel_rfl) (by kernel_rfl) (by kernel_rfl)) ?_
  intro W base args ds gs before hval0 hW hcnd hz0 _
  have hval : ∀ (j : Nat) t v, Try.f7.params[j]? = some t → args[j]? = some v → Value.okWide Try.prog W .any base t v := hval0
  have hz : (DataW.weightsEach Try.prog (Try.f7.params.toList ++ Rows.markApartSpec.plain.varTypes Try.prog) (ds ++ gs)).all (· ≤ reachBytes) = true := hz0
  have hW' := hW
  obtain ⟨p, q, hA0, hV, hbef, hfz, hnd⟩ := hW
  have hA : DataW.TrodAll enc0 Try.prog W 0 (fun _ => true) true Try.f7.params.toList args.toList ds p := hA0
  rw [Try.params7] at hA hval hz
  obtain ⟨v0, v1, v2, d0, d1, d2, p0, p1, p2, rfl, rfl, rfl, h0, h1, h2⟩ := trodAll_three hA
  obtain ⟨rfl, rfl⟩ := trodVars_none hV
  obtain ⟨a0, k0, l0⟩ := open_len oInts (e := 3) (by kernel_rfl) (hval 0 29 v0 rfl rfl) h0
  obtain ⟨a1, c1, k1⟩ := open_arg oTwo rfl (by kernel_rfl) (hval 1 46 v1 rfl rfl) h1
  obtain ⟨a2, k2, l2⟩ := open_len oInts (e := 3) (by kernel_rfl) (hval 2 29 v2 rfl rfl) h2
  have n0 := len_bound hz (j := 0) (t := 29) (e := 3) rfl rfl (by kernel_rfl) (of_decide_eq_true (by kernel_rfl)) l0
  have n2 := len_bound hz (j := 2) (t := 29) (e := 3) rfl rfl (by kernel_rfl) (of_decide_eq_true (by kernel_rfl)) l2
  exact law_post (tb := 4) Try.laidOut (by rw [Try.params7]) rfl rfl (by rw [hbef]; simp) rfl rfl (by kernel_rfl) (by kernel_rfl) hW' h0 h1 h2 (by
    intro t ht
    simp only [List.mem_cons, List.mem_nil_iff, or_false] at ht
    rcases ht with rfl | rfl | rfl <;> exact ⟨by kernel_rfl, of_decide_eq_true (by kernel_rfl)⟩) (F7 a0 a1 a2 (by omega) (by omega)) (rvs3 k0 ⟨c1, k1⟩ k2)
theorem markApart_holds : Rows.MarkApartSaid :=
  OpenClaim.holds_of_wide 7 Try.f7 rfl rfl rfl rfl rfl rfl rfl ⟨rfl, rfl, rfl, rfl, rfl⟩ rfl rfl rfl rfl rfl (by kernel_rfl) Try.func7 (by kernel_rfl)
    (of_decide_eq_true (by kernel_rfl)) (by unfold Func.isWrapper; first | (rw [if_pos (by decide +kernel)]; kernel_rfl) | (rw [if_neg (by decide +kernel)]; exact ⟨rfl, rfl⟩))
    (fun os started H enc0 _ => markApart_lifted os started H enc0)
#print axioms markApart_holds
end Go.Proofs.Ytkjkbpgdpnapfaa

