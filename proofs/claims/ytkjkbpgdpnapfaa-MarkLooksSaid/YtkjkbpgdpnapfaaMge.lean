/-
  FUNCTIONS OF THE PACKAGE mark BY CONTRACT: IndexFunc and ContainsFunc over given marks; isApart; Check; first.
-/
import Derived.Test.YtkjkbpgdpnapfaaMgd
set_option linter.unusedSimpArgs false
set_option linter.unusedVariables false
namespace Go.Proofs.Ytkjkbpgdpnapfaa
open Go Go.Abs
open Go.Abs.Enc (enc)
theorem F120 (m : Marks) (g : Given) (k : Arr 6 Int) (hg : okMark g.mark = true) (hk : okMark k = true) : Ctr Try.prog 120 (enc g :: [.ref (enc m), .ref (enc k)]) (enc (tooNear m g.mark k)) := by
  refine Ctr.mk' Try.func120 ca120 cc120 cr120 (Nat.le_of_ble_eq_true rfl) (fun hwf W0 D0 E1 => ?_)
  simp only [c120, r120, idx, Nat.zero_add, Nat.reduceAdd]
  refine AW.seq (AW.reg cd120_0 fun K hK => ?_)
  simp only [g120_0, bR, Nat.reduceEqDiff, reduceIte, Int.reduceBNe, Int.reduceBEq]
  simp only [e_isVal, bR, Nat.reduceEqDiff, reduceIte, Int.reduceBNe, Int.reduceBEq]
  refine .done (hK _ ?_); clear hK K; simp only [thenQ, blockQ]
  refine AW.seq (AW.reg cd120_1 fun K hK => ?_)
  simp only [g120_1, bR, Nat.reduceEqDiff, reduceIte, Int.reduceBNe, Int.reduceBEq]
  simp only [typR, useR, okR, e_fin, bR, Nat.reduceEqDiff, reduceIte, Int.reduceBNe, Int.reduceBEq]
  refine .flat _ (F87 m.wear g.mark k hg hk) rfl ?_
  simp only [typR, useR, okR, bR, Nat.reduceEqDiff, reduceIte, Int.reduceBNe, Int.reduceBEq]
  refine .done (hK _ ?_); clear hK K; simp only [thenQ, blockQ]
  refine AW.ret ?_
  simp only [blockQ, thenQ, bR, Nat.reduceEqDiff, reduceIte, Int.reduceBNe, Int.reduceBEq]
  rfl
theorem F108 (l : List Given) (f : FuncId) (caps : List AV) (hcaps : AV.dones caps = true) (p : Given → Bool) (hf : ∀ x ∈ l, Ctr Try.prog f (enc x :: caps) (enc (p x))) : Ctr Try.prog 108 [enc l, .func f caps] (enc (match l.findIdx? p with | some i => (i : Int) | none => -1)) := by
  refine Ctr.mk' Try.func108 ca108 cc108 cr108 (Nat.le_of_ble_eq_true rfl) (fun hwf W0 D0 E1 => ?_)
  simp only [c108, r108, idx, Nat.zero_add, Nat.reduceAdd]
  have hlen : l.length ≤ maxLen := ((wf_list l).1 hwf.1).1
  simp only [maxLen] at hlen
  have hcl : AV.closeds caps = true := dones_closed caps hcaps
  have hfc : ∀ bx A, fins bx A caps = some caps := fun bx A => fins_dones bx A caps hcaps
  have hon : ∀ q, AV.onlys q caps = true := fun q => onlys_closed q caps hcl
  refine AW.seq (AW.reg cd108_0 fun K hK => ?_)
  simp only [g108_0, bR, Nat.reduceEqDiff, reduceIte, Int.reduceBNe, Int.reduceBEq]
  refine .done (hK _ ?_); clear hK K; simp only [thenQ, blockQ]
  refine AW.seq ?_
  refine AW.seq (AW.reg cd108_1 fun K hK => ?_)
  simp only [g108_1, useR, bR, Nat.reduceEqDiff, reduceIte, Int.reduceBNe, Int.reduceBEq]
  refine .done (hK _ ?_); clear hK K; simp only [thenQ, blockQ]
  refine AW.block (AW.loop (fun i : Nat => mkA [(0, enc l), (1, .func f caps), (7, .int .i64 l.length), (8, .int .i64 i)] []) (fun i => i ≤ l.length ∧ ∀ x ∈ l.take i, p x = false) (fun i => l.length - i) 0 ⟨Nat.zero_le _, by simp⟩ ?_ (fun i hi => ?_))
  · refine Sub.of_lists ?_ ?_ ?_ ?_ <;> simp [subT, subO, onlyT, onlyO, isIn, look_cons, lookO_cons, lookO_nil, AV.only, AV.onlys, AO.only, onlys_map, onlys_append, e_only, e_int, e_bool, hon]
  · refine AW.seq (AW.reg cd108_2 fun K hK => ?_)
    simp only [g108_2, bR, Nat.reduceEqDiff, reduceIte, Int.reduceBNe, Int.reduceBEq]
    refine .done (hK _ ?_); clear hK K; simp only [thenQ, blockQ]
    refine AW.seq ?_
    refine AW.ite ?_
    simp only [condQ, bR, Nat.reduceEqDiff, reduceIte, Int.reduceBNe, Int.reduceBEq]
    refine ⟨fun h => ?_, fun h => ?_⟩
    · have hlt : i < l.length := by simpa using h
      refine AW.skip ?_; simp only [thenQ, blockQ, reduceIte, Nat.reduceEqDiff]
      refine AW.seq (AW.block ?_)
      refine AW.seq (AW.reg cd108_3 fun K hK => ?_)
      simp only [g108_3, bR, Nat.reduceEqDiff, reduceIte, Int.reduceBNe, Int.reduceBEq]
      refine .done (hK _ ?_); clear hK K; simp only [thenQ, blockQ]
      refine AW.seq (AW.reg cd108_4 fun K hK => ?_)
      simp only [g108_4, bR, Nat.reduceEqDiff, reduceIte, Int.reduceBNe, Int.reduceBEq]
      simp only [isE_nat 7 hlt rfl, typR, okR, List.cons_append, hfc, e_fin, bR, Nat.reduceEqDiff, reduceIte, Int.reduceBNe, Int.reduceBEq]
      refine .flat _ (hf _ (List.getElem_mem hlt)) rfl ?_
      simp only [bR, Nat.reduceEqDiff, reduceIte, Int.reduceBNe, Int.reduceBEq]
      refine .done (hK _ ?_); clear hK K; simp only [thenQ, blockQ]
      refine AW.ite ?_
      simp only [condQ, bR, Nat.reduceEqDiff, reduceIte, Int.reduceBNe, Int.reduceBEq]
      refine ⟨fun h => ?_, fun h => ?_⟩
      · refine AW.seq (AW.reg cd108_5 fun K hK => ?_)
        simp only [g108_5, bR, Nat.reduceEqDiff, reduceIte, Int.reduceBNe, Int.reduceBEq]
        refine .done (hK _ ?_); clear hK K; simp only [thenQ, blockQ]
        refine AW.ret ?_
        simp only [blockQ, thenQ, bR, Nat.reduceEqDiff, reduceIte, Int.reduceBNe, Int.reduceBEq]
        simp [findIdx?_some_at hlt hi.2 h]
      · refine AW.skip ?_; simp only [thenQ, blockQ, reduceIte, Nat.reduceEqDiff]
        refine AW.reg cd108_6 fun K hK => ?_
        simp only [g108_6, bR, Nat.reduceEqDiff, reduceIte, Int.reduceBNe, Int.reduceBEq]
        refine .done (hK _ ?_); clear hK K; simp only [thenQ, blockQ]
        refine ⟨i + 1, ⟨by omega, fun x hm => ?_⟩, by omega, ?_⟩
        · rw [List.take_succ_eq_append_getElem hlt] at hm
          rcases List.mem_append.1 hm with hm | hm
          · exact hi.2 x hm
          · simp at hm; rw [hm]; exact h
        · rw [wrap_id _ (by omega) (by omega)]
          refine Sub.of_lists ?_ ?_ ?_ ?_ <;> simp [subT, subO, onlyT, onlyO, isIn, look_cons, lookO_cons, lookO_nil, AV.only, AV.onlys, AO.only, onlys_map, onlys_append, e_only, e_int, e_bool, hon]
    · have hge : i = l.length := by simp at h; omega
      refine AW.exit ?_; simp only [thenQ, blockQ, reduceIte, Nat.reduceEqDiff]
      refine AW.seq (AW.reg cd108_7 fun K hK => ?_)
      simp only [g108_7, bR, Nat.reduceEqDiff, reduceIte, Int.reduceBNe, Int.reduceBEq]
      refine .done (hK _ ?_); clear hK K; simp only [thenQ, blockQ]
      refine AW.ret ?_
      simp only [blockQ, thenQ, bR, Nat.reduceEqDiff, reduceIte, Int.reduceBNe, Int.reduceBEq]
      simp [hge] at hi
      simp [findIdx?_none_take hi]
theorem findIdx?_any {α : Type} (p : α → Bool) (l : List α) : decide (0 ≤ (match l.findIdx? p with | some i => (i : Int) | none => -1)) = l.any p := by
  cases h : l.findIdx? p with
  | none =>
    rw [List.findIdx?_eq_none_iff] at h
    have : l.any p = false := by rw [List.any_eq_false]; intro x hx; simp [h x hx]
    simp [this]
  | some i =>
    rw [List.findIdx?_eq_some_iff_getElem] at h
    obtain ⟨h1, h2, _⟩ := h
    have : l.any p = true := by rw [List.any_eq_true]; exact ⟨_, List.getElem_mem h1, h2⟩
    rw [this]
    exact decide_eq_true (Int.natCast_nonneg i)
theorem F119 (l : List Given) (f : FuncId) (caps : List AV) (hcaps : AV.dones caps = true) (p : Given → Bool) (hf : ∀ x ∈ l, Ctr Try.prog f (enc x :: caps) (enc (p x))) : Ctr Try.prog 119 [enc l, .func f caps] (enc (l.any p)) := by
  refine Ctr.mk' Try.func119 ca119 cc119 cr119 (Nat.le_of_ble_eq_true rfl) (fun hwf W0 D0 E1 => ?_)
  simp only [c119, r119, idx, Nat.zero_add, Nat.reduceAdd]
  have hcl : AV.closeds caps = true := dones_closed caps hcaps
  have hfc : ∀ bx A, fins bx A caps = some caps := fun bx A => fins_dones bx A caps hcaps
  refine AW.seq (AW.reg cd119_0 fun K hK => ?_)
  simp only [g119_0, bR, Nat.reduceEqDiff, reduceIte, Int.reduceBNe, Int.reduceBEq]
  refine .done (hK _ ?_); clear hK K; simp only [thenQ, blockQ]
  refine AW.seq (AW.reg cd119_1 fun K hK => ?_)
  simp only [g119_1, bR, Nat.reduceEqDiff, reduceIte, Int.reduceBNe, Int.reduceBEq]
  simp only [e_fin, hfc, bR, Nat.reduceEqDiff, reduceIte, Int.reduceBNe, Int.reduceBEq]
  refine .flat _ (F108 l f caps hcaps p hf) rfl ?_
  simp only [bR, Nat.reduceEqDiff, reduceIte, Int.reduceBNe, Int.reduceBEq]
  refine .done (hK _ ?_); clear hK K; simp only [thenQ, blockQ]
  refine AW.ret ?_
  simp only [blockQ, thenQ, bR, Nat.reduceEqDiff, reduceIte, Int.reduceBNe, Int.reduceBEq]
  rw [findIdx?_any]
theorem F98 (m : Marks) (l : List Given) (k : Arr 6 Int) (hl : ∀ g ∈ l, okMark g.mark = true) (hk : okMark k = true) : Ctr Try.prog 98 [enc m, enc l, enc k] (enc (!l.any fun g => tooNear m g.mark k)) := by
  refine Ctr.mk' Try.func98 ca98 cc98 cr98 (Nat.le_of_ble_eq_true rfl) (fun hwf W0 D0 E1 => ?_)
  simp only [c98, r98, idx, Nat.zero_add, Nat.reduceAdd]
  refine AW.seq (AW.reg cd98_0 fun K hK => ?_)
  simp only [g98_0, bR, Nat.reduceEqDiff, reduceIte, Int.reduceBNe, Int.reduceBEq]
  simp only [e_isVal, bR, Nat.reduceEqDiff, reduceIte, Int.reduceBNe, Int.reduceBEq]
  refine .done (hK _ ?_); clear hK K; simp only [thenQ, blockQ]
  refine AW.seq (AW.reg cd98_1 fun K hK => ?_)
  simp only [g98_1, bR, Nat.reduceEqDiff, reduceIte, Int.reduceBNe, Int.reduceBEq]
  simp only [List.all_cons, List.all_nil, AV.isVal, Bool.and_self, e_closed, e_fin, bR, Nat.reduceEqDiff, reduceIte, Int.reduceBNe, Int.reduceBEq]
  refine .flat _ (F119 l 120 [.ref (enc m), .ref (enc k)] ?_ (fun g => tooNear m g.mark k) (fun g hg => F120 m g k (hl g hg) hk)) rfl ?_
  · simp only [AV.dones, AV.done, e_closed, Bool.and_self]
  simp only [bR, Nat.reduceEqDiff, reduceIte, Int.reduceBNe, Int.reduceBEq]
  refine .done (hK _ ?_); clear hK K; simp only [thenQ, blockQ]
  refine AW.ret ?_
  simp only [blockQ, thenQ, bR, Nat.reduceEqDiff, reduceIte, Int.reduceBNe, Int.reduceBEq]
theorem slE_take {α : Type} [Enc α] {A : AState} (esz : Nat) {l : List α} {i : Nat} (h : i ≤ l.length) (hs : Enc.sz α = esz) : slE A esz none (some (.int .i64 i)) none (enc l) = some (enc (l.take i)) := by
  simp only [slE, e_list, hs, if_true, sliceOf, bound, List.length_map]
  rw [if_pos ⟨by omega, by omega, by omega, by omega⟩]
  simp
theorem any_take (m : Marks) (k : Arr 6 Int) {i : Nat} (h : i ≤ m.given.length) : (!(m.given.take i).any fun g => tooNear m g.mark k) = (List.range i).all (fun j => !tooNear m (gv m j).mark k) := by
  rw [Bool.eq_iff_iff]
  simp only [Bool.not_eq_true', List.any_eq_false, List.all_eq_true, List.mem_range]
  constructor
  · intro h1 j hj
    have hjl : j < m.given.length := by omega
    have := h1 m.given[j] (by rw [List.mem_take_iff_getElem]; exact ⟨j, by omega, rfl⟩)
    rw [gv_eq hjl] at this
    simpa using this
  · intro h1 g hg
    rw [List.mem_take_iff_getElem] at hg
    obtain ⟨j, hj, rfl⟩ := hg
    have hjl : j < m.given.length := by omega
    rw [gv_eq hjl]
    simpa using h1 j (by omega)
theorem F47 (m : Marks) : Ctr Try.prog 47 [enc m] (enc (if okM m then (0 : Int) else 13)) := by
  refine Ctr.mk' Try.func47 ca47 cc47 cr47 (Nat.le_of_ble_eq_true rfl) (fun hwf W0 D0 E1 => ?_)
  simp only [c47, r47, idx, Nat.zero_add, Nat.reduceAdd]
  refine AW.seq (AW.reg cd47_0 fun K hK => ?_)
  simp only [g47_0, bR, Nat.reduceEqDiff, reduceIte, Int.reduceBNe, Int.reduceBEq]
  simp only [e_isVal, bR, Nat.reduceEqDiff, reduceIte, Int.reduceBNe, Int.reduceBEq]
  refine .done (hK _ ?_); clear hK K; simp only [thenQ, blockQ]
  refine AW.seq (AW.seq ?_)
  refine AW.reg cd47_1 fun K hK => ?_
  simp only [g47_1, bR, Nat.reduceEqDiff, reduceIte, Int.reduceBNe, Int.reduceBEq]
  simp only [typR, useR, okR, e_fin, bR, Nat.reduceEqDiff, reduceIte, Int.reduceBNe, Int.reduceBEq]
  refine .flat _ (F95 m.wear) rfl ?_
  generalize hw : okWear m.wear = bw
  cases bw
  · simp only [typR, useR, okR, bR, Nat.reduceEqDiff, reduceIte, Int.reduceBNe, Int.reduceBEq]
    refine .done (hK _ ?_); clear hK K; simp only [thenQ, blockQ]
    refine AW.ite ?_
    simp only [condQ, bR, Nat.reduceEqDiff, reduceIte, Int.reduceBNe, Int.reduceBEq]
    refine ⟨fun h => ?_, fun h => ?_⟩
    · refine AW.seq (AW.reg cd47_2 fun K hK => ?_)
      simp only [g47_2, bR, Nat.reduceEqDiff, reduceIte, Int.reduceBNe, Int.reduceBEq]
      refine .done (hK _ ?_); clear hK K; simp only [thenQ, blockQ]
      refine AW.ret ?_
      simp only [blockQ, thenQ, bR, Nat.reduceEqDiff, reduceIte, Int.reduceBNe, Int.reduceBEq]
      simp [okM, hw]
    · cases h
  simp only [typR, useR, okR, bR, Nat.reduceEqDiff, reduceIte, Int.reduceBNe, Int.reduceBEq]
  refine .flat _ (F89 m.fls 0 2) rfl ?_
  generalize hf : inR 0 2 m.fls = bf
  cases bf
  · simp only [typR, useR, okR, bR, Nat.reduceEqDiff, reduceIte, Int.reduceBNe, Int.reduceBEq]
    refine .done (hK _ ?_); clear hK K; simp only [thenQ, blockQ]
    refine AW.ite ?_
    simp only [condQ, bR, Nat.reduceEqDiff, reduceIte, Int.reduceBNe, Int.reduceBEq]
    refine ⟨fun h => ?_, fun h => ?_⟩
    · refine AW.seq (AW.reg cd47_2 fun K hK => ?_)
      simp only [g47_2, bR, Nat.reduceEqDiff, reduceIte, Int.reduceBNe, Int.reduceBEq]
      refine .done (hK _ ?_); clear hK K; simp only [thenQ, blockQ]
      refine AW.ret ?_
      simp only [blockQ, thenQ, bR, Nat.reduceEqDiff, reduceIte, Int.reduceBNe, Int.reduceBEq]
      simp [okM, hw, hf]
    · cases h
  simp only [typR, useR, okR, bR, Nat.reduceEqDiff, reduceIte, Int.reduceBNe, Int.reduceBEq]
  refine .done (hK _ ?_); clear hK K; simp only [thenQ, blockQ]
  refine AW.ite ?_
  simp only [condQ, bR, Nat.reduceEqDiff, reduceIte, Int.reduceBNe, Int.reduceBEq]
  refine ⟨fun h => ?_, fun h => ?_⟩
  · refine AW.seq (AW.reg cd47_2 fun K hK => ?_)
    simp only [g47_2, bR, Nat.reduceEqDiff, reduceIte, Int.reduceBNe, Int.reduceBEq]
    refine .done (hK _ ?_); clear hK K; simp only [thenQ, blockQ]
    refine AW.ret ?_
    simp only [blockQ, thenQ, bR, Nat.reduceEqDiff, reduceIte, Int.reduceBNe, Int.reduceBEq]
    have : ¬ m.given.length ≤ 40 := by simp at h; omega
    simp [okM, hw, hf, this]
  have hlen : m.given.length ≤ 40 := by simp at h; omega
  refine AW.skip ?_; simp only [thenQ, blockQ, reduceIte, Nat.reduceEqDiff]
  refine AW.seq (AW.seq ?_)
  refine AW.reg cd47_3 fun K hK => ?_
  simp only [g47_3, typR, useR, okR, bR, Nat.reduceEqDiff, reduceIte, Int.reduceBNe, Int.reduceBEq]
  refine .done (hK _ ?_); clear hK K; simp only [thenQ, blockQ]
  refine AW.block (AW.loop (fun i : Nat => mkA [(1, .ptr 1 []), (22, enc m.given), (23, .int .i64 m.given.length), (24, .int .i64 i)] [(1, .box (enc m))]) (fun i => i ≤ m.given.length ∧ ∀ j, j < i → okAt m j = true) (fun i => m.given.length - i) 0 ⟨by omega, fun k h => by omega⟩ ?_ (fun i hi => ?_))
  · refine Sub.of_lists ?_ ?_ ?_ ?_ <;> simp [subT, subO, onlyT, onlyO, isIn, look_cons, lookO_cons, lookO_nil, AV.only, AV.onlys, AO.only, onlys_map, onlys_append, e_only, e_int, e_bool]
  refine AW.seq (AW.reg cd47_4 fun K hK => ?_)
  simp only [g47_4, bR, Nat.reduceEqDiff, reduceIte, Int.reduceBNe, Int.reduceBEq]
  refine .done (hK _ ?_); clear hK K; simp only [thenQ, blockQ]
  refine AW.seq ?_
  refine AW.ite ?_
  simp only [condQ, bR, Nat.reduceEqDiff, reduceIte, Int.reduceBNe, Int.reduceBEq]
  refine ⟨fun h => ?_, fun h => ?_⟩
  case refine_2.refine_2 =>
    have hge : i = m.given.length := by simp at h; omega
    subst hge
    refine AW.exit ?_; simp only [thenQ, blockQ, reduceIte, Nat.reduceEqDiff]
    refine AW.seq (AW.reg cd47_9 fun K hK => ?_)
    simp only [g47_9, bR, Nat.reduceEqDiff, reduceIte, Int.reduceBNe, Int.reduceBEq]
    refine .done (hK _ ?_); clear hK K; simp only [thenQ, blockQ]
    refine AW.ret ?_
    simp only [blockQ, thenQ, bR, Nat.reduceEqDiff, reduceIte, Int.reduceBNe, Int.reduceBEq]
    have : (List.range m.given.length).all (okAt m) = true := all_true hi.2
    simp [okM, hw, hf, this, hlen]
  have hlt : i < m.given.length := by simpa using h
  refine AW.skip ?_; simp only [thenQ, blockQ, reduceIte, Nat.reduceEqDiff]
  refine AW.seq (AW.block ?_)
  refine AW.seq (AW.reg cd47_5 fun K hK => ?_)
  simp only [g47_5, bR, Nat.reduceEqDiff, reduceIte, Int.reduceBNe, Int.reduceBEq]
  simp only [typR, useR, okR, isE_gv hlt, bR, Nat.reduceEqDiff, reduceIte, Int.reduceBNe, Int.reduceBEq]
  rw [stR3_ok (e_isVal _) (by rw [e_okS]; rfl) ((e_sh _).trans rfl)]
  simp only [typR, useR, okR, bR, Nat.reduceEqDiff, reduceIte, Int.reduceBNe, Int.reduceBEq]
  refine .done (hK _ ?_); clear hK K; simp only [thenQ, blockQ]
  have bad : ∀ b, okAt m i = b → b = false → (if okM m then (0 : Int) else 13) = 13 := fun b h1 h2 => by
    have : (List.range m.given.length).all (okAt m) = false := all_false i hlt (by rw [h1, h2])
    simp [okM, this]
  have htake : ∀ g ∈ m.given.take i, okMark g.mark = true := fun g hg => by
    rw [List.mem_take_iff_getElem] at hg
    obtain ⟨j, hj, rfl⟩ := hg
    have hjl : j < m.given.length := by omega
    rw [gv_eq hjl]
    exact okAt_mark (hi.2 j (by omega))
  refine AW.seq (AW.reg cd47_6 fun K hK => ?_)
  simp only [g47_6, bR, Nat.reduceEqDiff, reduceIte, Int.reduceBNe, Int.reduceBEq]
  simp only [typR, useR, okR, e_fin, bR, Nat.reduceEqDiff, reduceIte, Int.reduceBNe, Int.reduceBEq]
  refine .flat _ (F97 (gv m i).owner) rfl ?_
  generalize ho : inR 1 99 (gv m i).owner = bo
  cases bo
  · simp only [typR, useR, okR, bR, Nat.reduceEqDiff, reduceIte, Int.reduceBNe, Int.reduceBEq]
    refine .done (hK _ ?_); clear hK K; simp only [thenQ, blockQ]
    refine AW.ite ?_
    simp only [condQ, bR, Nat.reduceEqDiff, reduceIte, Int.reduceBNe, Int.reduceBEq]
    refine ⟨fun h => ?_, fun h => ?_⟩
    · refine AW.seq (AW.reg cd47_7 fun K hK => ?_)
      simp only [g47_7, bR, Nat.reduceEqDiff, reduceIte, Int.reduceBNe, Int.reduceBEq]
      refine .done (hK _ ?_); clear hK K; simp only [thenQ, blockQ]
      refine AW.ret ?_
      simp only [blockQ, thenQ, bR, Nat.reduceEqDiff, reduceIte, Int.reduceBNe, Int.reduceBEq]
      rw [bad _ rfl (by simp [okAt, ho])]
    · cases h
  simp only [typR, useR, okR, e_fin, bR, Nat.reduceEqDiff, reduceIte, Int.reduceBNe, Int.reduceBEq]
  refine .flat _ (F93 (gv m i).mark) rfl ?_
  generalize hk : okMark (gv m i).mark = bk
  cases bk
  · simp only [typR, useR, okR, bR, Nat.reduceEqDiff, reduceIte, Int.reduceBNe, Int.reduceBEq]
    refine .done (hK _ ?_); clear hK K; simp only [thenQ, blockQ]
    refine AW.ite ?_
    simp only [condQ, bR, Nat.reduceEqDiff, reduceIte, Int.reduceBNe, Int.reduceBEq]
    refine ⟨fun h => ?_, fun h => ?_⟩
    · refine AW.seq (AW.reg cd47_7 fun K hK => ?_)
      simp only [g47_7, bR, Nat.reduceEqDiff, reduceIte, Int.reduceBNe, Int.reduceBEq]
      refine .done (hK _ ?_); clear hK K; simp only [thenQ, blockQ]
      refine AW.ret ?_
      simp only [blockQ, thenQ, bR, Nat.reduceEqDiff, reduceIte, Int.reduceBNe, Int.reduceBEq]
      rw [bad _ rfl (by simp [okAt, ho, hk])]
    · cases h
  simp only [typR, useR, okR, bR, Nat.reduceEqDiff, reduceIte, Int.reduceBNe, Int.reduceBEq]
  generalize hz : decide (0 < (i : Int)) = bz
  cases bz
  · have hprev : (i == 0 || decide ((gv m (i - 1)).owner < (gv m i).owner)) = true := by simp at hz; simp [hz]
    simp only [typR, useR, okR, bR, Nat.reduceEqDiff, reduceIte, Int.reduceBNe, Int.reduceBEq]
    simp only [typR, useR, okR, e_fin, slE_take 7 (Nat.le_of_lt hlt) rfl, Option.map_none, bR, Nat.reduceEqDiff, reduceIte, Int.reduceBNe, Int.reduceBEq]
    refine .flat _ (F98 m (m.given.take i) (gv m i).mark htake hk) rfl ?_
    rw [any_take m (gv m i).mark (Nat.le_of_lt hlt)]
    generalize hap : (List.range i).all (fun j => !tooNear m (gv m j).mark (gv m i).mark) = ba
    cases ba
    · simp only [typR, useR, okR, bR, Nat.reduceEqDiff, reduceIte, Int.reduceBNe, Int.reduceBEq]
      refine .done (hK _ ?_); clear hK K; simp only [thenQ, blockQ]
      refine AW.ite ?_
      simp only [condQ, bR, Nat.reduceEqDiff, reduceIte, Int.reduceBNe, Int.reduceBEq]
      refine ⟨fun h => ?_, fun h => ?_⟩
      · refine AW.seq (AW.reg cd47_7 fun K hK => ?_)
        simp only [g47_7, bR, Nat.reduceEqDiff, reduceIte, Int.reduceBNe, Int.reduceBEq]
        refine .done (hK _ ?_); clear hK K; simp only [thenQ, blockQ]
        refine AW.ret ?_
        simp only [blockQ, thenQ, bR, Nat.reduceEqDiff, reduceIte, Int.reduceBNe, Int.reduceBEq]
        rw [bad _ rfl (by simp only [okAt, hap, Bool.and_false])]
      · cases h
    · simp only [typR, useR, okR, bR, Nat.reduceEqDiff, reduceIte, Int.reduceBNe, Int.reduceBEq]
      refine .done (hK _ ?_); clear hK K; simp only [thenQ, blockQ]
      refine AW.ite ?_
      simp only [condQ, bR, Nat.reduceEqDiff, reduceIte, Int.reduceBNe, Int.reduceBEq]
      refine ⟨fun h => ?_, fun h => ?_⟩
      · cases h
      refine AW.skip ?_; simp only [thenQ, blockQ, reduceIte, Nat.reduceEqDiff]
      refine AW.reg cd47_8 fun K hK => ?_
      simp only [g47_8, bR, Nat.reduceEqDiff, reduceIte, Int.reduceBNe, Int.reduceBEq]
      refine .done (hK _ ?_); clear hK K; simp only [thenQ, blockQ]
      refine ⟨i + 1, ⟨by omega, fun k hk' => ?_⟩, by omega, ?_⟩
      · by_cases hki : k = i
        · rw [hki]
          simp only [okAt, ho, hk, hprev, hap, Bool.and_self]
        · exact hi.2 k (by omega)
      · rw [wrap_id _ (by omega) (by omega)]
        refine Sub.of_lists ?_ ?_ ?_ ?_ <;> simp [subT, subO, onlyT, onlyO, isIn, look_cons, lookO_cons, lookO_nil, AV.only, AV.onlys, AO.only, onlys_map, onlys_append, e_only, e_int, e_bool]
  · have hpos : 0 < i := by simpa using hz
    have hpl : i - 1 < m.given.length := by omega
    have hpred : IntKind.i64.wrap ((i : Int) - 1) = ((i - 1 : Nat) : Int) := by rw [wrap_id _ (by omega) (by omega)]; omega
    simp only [typR, useR, okR, hpred, isE_gv hpl, bR, Nat.reduceEqDiff, reduceIte, Int.reduceBNe, Int.reduceBEq]
    generalize hq : decide ((gv m i).owner ≤ (gv m (i - 1)).owner) = bq
    cases bq
    · have hprev : (i == 0 || decide ((gv m (i - 1)).owner < (gv m i).owner)) = true := by simp at hq; simp; omega
      simp only [typR, useR, okR, bR, Nat.reduceEqDiff, reduceIte, Int.reduceBNe, Int.reduceBEq]
      simp only [typR, useR, okR, e_fin, slE_take 7 (Nat.le_of_lt hlt) rfl, Option.map_none, bR, Nat.reduceEqDiff, reduceIte, Int.reduceBNe, Int.reduceBEq]
      refine .flat _ (F98 m (m.given.take i) (gv m i).mark htake hk) rfl ?_
      rw [any_take m (gv m i).mark (Nat.le_of_lt hlt)]
      generalize hap : (List.range i).all (fun j => !tooNear m (gv m j).mark (gv m i).mark) = ba
      cases ba
      · simp only [typR, useR, okR, bR, Nat.reduceEqDiff, reduceIte, Int.reduceBNe, Int.reduceBEq]
        refine .done (hK _ ?_); clear hK K; simp only [thenQ, blockQ]
        refine AW.ite ?_
        simp only [condQ, bR, Nat.reduceEqDiff, reduceIte, Int.reduceBNe, Int.reduceBEq]
        refine ⟨fun h => ?_, fun h => ?_⟩
        · refine AW.seq (AW.reg cd47_7 fun K hK => ?_)
          simp only [g47_7, bR, Nat.reduceEqDiff, reduceIte, Int.reduceBNe, Int.reduceBEq]
          refine .done (hK _ ?_); clear hK K; simp only [thenQ, blockQ]
          refine AW.ret ?_
          simp only [blockQ, thenQ, bR, Nat.reduceEqDiff, reduceIte, Int.reduceBNe, Int.reduceBEq]
          rw [bad _ rfl (by simp only [okAt, hap, Bool.and_false])]
        · cases h
      · simp only [typR, useR, okR, bR, Nat.reduceEqDiff, reduceIte, Int.reduceBNe, Int.reduceBEq]
        refine .done (hK _ ?_); clear hK K; simp only [thenQ, blockQ]
        refine AW.ite ?_
        simp only [condQ, bR, Nat.reduceEqDiff, reduceIte, Int.reduceBNe, Int.reduceBEq]
        refine ⟨fun h => ?_, fun h => ?_⟩
        · cases h
        refine AW.skip ?_; simp only [thenQ, blockQ, reduceIte, Nat.reduceEqDiff]
        refine AW.reg cd47_8 fun K hK => ?_
        simp only [g47_8, bR, Nat.reduceEqDiff, reduceIte, Int.reduceBNe, Int.reduceBEq]
        refine .done (hK _ ?_); clear hK K; simp only [thenQ, blockQ]
        refine ⟨i + 1, ⟨by omega, fun k hk' => ?_⟩, by omega, ?_⟩
        · by_cases hki : k = i
          · rw [hki]
            simp only [okAt, ho, hk, hprev, hap, Bool.and_self]
          · exact hi.2 k (by omega)
        · rw [wrap_id _ (by omega) (by omega)]
          refine Sub.of_lists ?_ ?_ ?_ ?_ <;> simp [subT, subO, onlyT, onlyO, isIn, look_cons, lookO_cons, lookO_nil, AV.only, AV.onlys, AO.only, onlys_map, onlys_append, e_only, e_int, e_bool]
    · simp only [typR, useR, okR, bR, Nat.reduceEqDiff, reduceIte, Int.reduceBNe, Int.reduceBEq]
      refine .done (hK _ ?_); clear hK K; simp only [thenQ, blockQ]
      refine AW.ite ?_
      simp only [condQ, bR, Nat.reduceEqDiff, reduceIte, Int.reduceBNe, Int.reduceBEq]
      refine ⟨fun h => ?_, fun h => ?_⟩
      · refine AW.seq (AW.reg cd47_7 fun K hK => ?_)
        simp only [g47_7, bR, Nat.reduceEqDiff, reduceIte, Int.reduceBNe, Int.reduceBEq]
        refine .done (hK _ ?_); clear hK K; simp only [thenQ, blockQ]
        refine AW.ret ?_
        simp only [blockQ, thenQ, bR, Nat.reduceEqDiff, reduceIte, Int.reduceBNe, Int.reduceBEq]
        have : (i == 0 || decide ((gv m (i - 1)).owner < (gv m i).owner)) = false := by simp at hq; simp; omega
        rw [bad _ rfl (by simp only [okAt, this, Bool.and_false, Bool.false_and])]
      · cases h
end Go.Proofs.Ytkjkbpgdpnapfaa

/-
  FUNCTIONS OF THE PACKAGE mark BY CONTRACT: first, Cost, Distance, Possible, asked.
-/
namespace Go.Proofs.Ytkjkbpgdpnapfaa
open Go Go.Abs
open Go.Abs.Enc (enc)
def firstOf (l : List Int) : Int := (l.find? fun x => x != 0).getD 0
theorem F64 (l : List Int) : Ctr Try.prog 64 [enc l] (enc (firstOf l)) := by
  refine Ctr.mk' Try.func64 ca64 cc64 cr64 (Nat.le_of_ble_eq_true rfl) (fun hwf W0 D0 E1 => ?_)
  simp only [c64, r64, idx, Nat.zero_add, Nat.reduceAdd]
  have hlen : l.length ≤ maxLen := ((wf_list l).1 hwf.1).1
  simp only [maxLen] at hlen
  refine AW.seq (AW.reg cd64_0 fun K hK => ?_)
  simp only [g64_0, bR, Nat.reduceEqDiff, reduceIte, Int.reduceBNe, Int.reduceBEq]
  refine .done (hK _ ?_); clear hK K; simp only [thenQ, blockQ]
  refine AW.seq ?_
  refine AW.seq (AW.reg cd64_1 fun K hK => ?_)
  simp only [g64_1, useR, bR, Nat.reduceEqDiff, reduceIte, Int.reduceBNe, Int.reduceBEq]
  refine .done (hK _ ?_); clear hK K; simp only [thenQ, blockQ]
  refine AW.block (AW.loop (fun i : Nat => mkA [(5, enc l), (6, .int .i64 l.length), (7, .int .i64 i)] []) (fun i => i ≤ l.length ∧ ∀ x ∈ l.take i, x = 0) (fun i => l.length - i) 0 ⟨Nat.zero_le _, by simp⟩ ?_ (fun i hi => ?_))
  · refine Sub.of_lists ?_ ?_ ?_ ?_ <;> simp [subT, subO, onlyT, onlyO, isIn, look_cons, lookO_cons, lookO_nil, AV.only, AV.onlys, AO.only, onlys_map, onlys_append, e_only, e_int, e_bool]
  · refine AW.seq (AW.reg cd64_2 fun K hK => ?_)
    simp only [g64_2, bR, Nat.reduceEqDiff, reduceIte, Int.reduceBNe, Int.reduceBEq]
    refine .done (hK _ ?_); clear hK K; simp only [thenQ, blockQ]
    refine AW.seq ?_
    refine AW.ite ?_
    simp only [condQ, bR, Nat.reduceEqDiff, reduceIte, Int.reduceBNe, Int.reduceBEq]
    refine ⟨fun h => ?_, fun h => ?_⟩
    · have hlt : i < l.length := by simpa using h
      refine AW.skip ?_; simp only [thenQ, blockQ, reduceIte, Nat.reduceEqDiff]
      refine AW.seq (AW.block ?_)
      refine AW.seq (AW.reg cd64_3 fun K hK => ?_)
      simp only [g64_3, bR, Nat.reduceEqDiff, reduceIte, Int.reduceBNe, Int.reduceBEq]
      simp only [isE_nat 1 hlt rfl, okR, bR, Nat.reduceEqDiff, reduceIte, Int.reduceBNe, Int.reduceBEq]
      refine .done (hK _ ?_); clear hK K; simp only [thenQ, blockQ]
      refine AW.seq (AW.reg cd64_4 fun K hK => ?_)
      simp only [g64_4, bR, Nat.reduceEqDiff, reduceIte, Int.reduceBNe, Int.reduceBEq]
      refine .done (hK _ ?_); clear hK K; simp only [thenQ, blockQ]
      refine AW.ite ?_
      simp only [condQ, bR, Nat.reduceEqDiff, reduceIte, Int.reduceBNe, Int.reduceBEq]
      refine ⟨fun h => ?_, fun h => ?_⟩
      · refine AW.seq (AW.reg cd64_5 fun K hK => ?_)
        simp only [g64_5, bR, Nat.reduceEqDiff, reduceIte, Int.reduceBNe, Int.reduceBEq]
        refine .done (hK _ ?_); clear hK K; simp only [thenQ, blockQ]
        refine AW.ret ?_
        simp only [blockQ, thenQ, bR, Nat.reduceEqDiff, reduceIte, Int.reduceBNe, Int.reduceBEq]
        have h1 : l[i] ≠ 0 := by simpa using h
        have h2 : l.find? (fun x => x != 0) = some l[i] := by
          rw [List.find?_eq_some_iff_getElem]
          refine ⟨by simpa using h1, i, hlt, rfl, fun j hj => ?_⟩
          have := hi.2 l[j] (by rw [List.mem_take_iff_getElem]; exact ⟨j, by omega, rfl⟩)
          simp [this]
        simp [firstOf, h2]
      · refine AW.skip ?_; simp only [thenQ, blockQ, reduceIte, Nat.reduceEqDiff]
        refine AW.reg cd64_6 fun K hK => ?_
        simp only [g64_6, bR, Nat.reduceEqDiff, reduceIte, Int.reduceBNe, Int.reduceBEq]
        refine .done (hK _ ?_); clear hK K; simp only [thenQ, blockQ]
        refine ⟨i + 1, ⟨by omega, fun x hm => ?_⟩, by omega, ?_⟩
        · rw [List.take_succ_eq_append_getElem hlt] at hm
          rcases List.mem_append.1 hm with hm | hm
          · exact hi.2 x hm
          · simp at hm h; rw [hm]; exact h
        · rw [wrap_id _ (by omega) (by omega)]
          refine Sub.of_lists ?_ ?_ ?_ ?_ <;> simp [subT, subO, onlyT, onlyO, isIn, look_cons, lookO_cons, lookO_nil, AV.only, AV.onlys, AO.only, onlys_map, onlys_append, e_only, e_int, e_bool]
    · have hge : i = l.length := by simp at h; omega
      refine AW.exit ?_; simp only [thenQ, blockQ, reduceIte, Nat.reduceEqDiff]
      refine AW.seq (AW.reg cd64_7 fun K hK => ?_)
      simp only [g64_7, bR, Nat.reduceEqDiff, reduceIte, Int.reduceBNe, Int.reduceBEq]
      refine .done (hK _ ?_); clear hK K; simp only [thenQ, blockQ]
      refine AW.ret ?_
      simp only [blockQ, thenQ, bR, Nat.reduceEqDiff, reduceIte, Int.reduceBNe, Int.reduceBEq]
      simp [hge] at hi
      have h2 : l.find? (fun x => x != 0) = none := by
        rw [List.find?_eq_none]; intro x hx; simp [hi x hx]
      simp [firstOf, h2]
theorem bs2 (a b : Int) : bsE 1 (some [.int .i64 a, .int .i64 b]) = some (enc [a, b]) := bsE_enc (ys := [a, b]) 1 rfl
theorem bs3 (a b c : Int) : bsE 1 (some [.int .i64 a, .int .i64 b, .int .i64 c]) = some (enc [a, b, c]) := bsE_enc (ys := [a, b, c]) 1 rfl
theorem first3 (a b c : Bool) (x y z : Int) (hx : x ≠ 0) (hy : y ≠ 0) (hz : z ≠ 0) : firstOf [if a then 0 else x, if b then 0 else y, if c then 0 else z] = if a then (if b then (if c then 0 else z) else y) else x := by
  cases a <;> cases b <;> cases c <;> simp [firstOf, hx, hy, hz]
theorem first2 (a b : Bool) (x y : Int) (hx : x ≠ 0) (hy : y ≠ 0) : firstOf [if a then 0 else x, if b then 0 else y] = if a then (if b then 0 else y) else x := by
  cases a <;> cases b <;> simp [firstOf, hx, hy]
theorem F36 (w : Arr 5 Int) (a b : Arr 6 Int) : Ctr Try.prog 36 [enc w, enc a, enc b] (.tuple [enc (distR w a b).1, enc (distR w a b).2]) := by
  refine Ctr.mk' Try.func36 ca36 cc36 cr36 (Nat.le_of_ble_eq_true rfl) (fun hwf W0 D0 E1 => ?_)
  simp only [c36, r36, idx, Nat.zero_add, Nat.reduceAdd]
  refine AW.seq (AW.reg cd36_0 fun K hK => ?_)
  simp only [g36_0, bR, Nat.reduceEqDiff, reduceIte, Int.reduceBNe, Int.reduceBEq]
  simp only [e_isVal, bR, Nat.reduceEqDiff, reduceIte, Int.reduceBNe, Int.reduceBEq]
  refine .done (hK _ ?_); clear hK K; simp only [thenQ, blockQ]
  refine AW.seq ?_
  refine AW.seq (AW.reg cd36_1 fun K hK => ?_)
  simp only [g36_1, bR, Nat.reduceEqDiff, reduceIte, Int.reduceBNe, Int.reduceBEq]
  simp only [typR, useR, okR, e_fin, bR, Nat.reduceEqDiff, reduceIte, Int.reduceBNe, Int.reduceBEq]
  refine .flat _ (F43 w) rfl ?_
  simp only [typR, useR, okR, e_fin, bR, Nat.reduceEqDiff, reduceIte, Int.reduceBNe, Int.reduceBEq]
  refine .flat _ (F41 a) rfl ?_
  simp only [typR, useR, okR, e_fin, bR, Nat.reduceEqDiff, reduceIte, Int.reduceBNe, Int.reduceBEq]
  refine .flat _ (F41 b) rfl ?_
  simp only [typR, useR, okR, e_fin, bs3, bR, Nat.reduceEqDiff, reduceIte, Int.reduceBNe, Int.reduceBEq]
  refine .flat _ (F64 _) rfl ?_
  rw [first3 _ _ _ 11 10 10 (by decide) (by decide) (by decide)]
  simp only [bR, Nat.reduceEqDiff, reduceIte, Int.reduceBNe, Int.reduceBEq]
  refine .done (hK _ ?_); clear hK K; simp only [thenQ, blockQ]
  generalize hw : okWear w = bw
  generalize ha : okMark a = ba
  generalize hb : okMark b = bb
  cases bw
  · refine AW.seq (AW.reg cd36_2 fun K hK => ?_)
    simp only [g36_2, bR, Nat.reduceEqDiff, reduceIte, Int.reduceBNe, Int.reduceBEq]
    refine .done (hK _ ?_); clear hK K; simp only [thenQ, blockQ]
    refine AW.ite ?_
    simp only [condQ, bR, Nat.reduceEqDiff, reduceIte, Int.reduceBNe, Int.reduceBEq]
    refine ⟨fun h => ?_, fun h => ?_⟩
    · refine AW.seq (AW.reg cd36_3 fun K hK => ?_)
      simp only [g36_3, bR, Nat.reduceEqDiff, reduceIte, Int.reduceBNe, Int.reduceBEq]
      refine .done (hK _ ?_); clear hK K; simp only [thenQ, blockQ]
      refine AW.ret ?_
      simp only [blockQ, thenQ, bR, Nat.reduceEqDiff, reduceIte, Int.reduceBNe, Int.reduceBEq]
      simp [distR, hw]
    · cases h
  cases ba
  · refine AW.seq (AW.reg cd36_2 fun K hK => ?_)
    simp only [g36_2, bR, Nat.reduceEqDiff, reduceIte, Int.reduceBNe, Int.reduceBEq]
    refine .done (hK _ ?_); clear hK K; simp only [thenQ, blockQ]
    refine AW.ite ?_
    simp only [condQ, bR, Nat.reduceEqDiff, reduceIte, Int.reduceBNe, Int.reduceBEq]
    refine ⟨fun h => ?_, fun h => ?_⟩
    · refine AW.seq (AW.reg cd36_3 fun K hK => ?_)
      simp only [g36_3, bR, Nat.reduceEqDiff, reduceIte, Int.reduceBNe, Int.reduceBEq]
      refine .done (hK _ ?_); clear hK K; simp only [thenQ, blockQ]
      refine AW.ret ?_
      simp only [blockQ, thenQ, bR, Nat.reduceEqDiff, reduceIte, Int.reduceBNe, Int.reduceBEq]
      simp [distR, hw, ha]
    · cases h
  cases bb
  · refine AW.seq (AW.reg cd36_2 fun K hK => ?_)
    simp only [g36_2, bR, Nat.reduceEqDiff, reduceIte, Int.reduceBNe, Int.reduceBEq]
    refine .done (hK _ ?_); clear hK K; simp only [thenQ, blockQ]
    refine AW.ite ?_
    simp only [condQ, bR, Nat.reduceEqDiff, reduceIte, Int.reduceBNe, Int.reduceBEq]
    refine ⟨fun h => ?_, fun h => ?_⟩
    · refine AW.seq (AW.reg cd36_3 fun K hK => ?_)
      simp only [g36_3, bR, Nat.reduceEqDiff, reduceIte, Int.reduceBNe, Int.reduceBEq]
      refine .done (hK _ ?_); clear hK K; simp only [thenQ, blockQ]
      refine AW.ret ?_
      simp only [blockQ, thenQ, bR, Nat.reduceEqDiff, reduceIte, Int.reduceBNe, Int.reduceBEq]
      simp [distR, hw, ha, hb]
    · cases h
  refine AW.seq (AW.reg cd36_2 fun K hK => ?_)
  simp only [g36_2, bR, Nat.reduceEqDiff, reduceIte, Int.reduceBNe, Int.reduceBEq]
  refine .done (hK _ ?_); clear hK K; simp only [thenQ, blockQ]
  refine AW.ite ?_
  simp only [condQ, bR, Nat.reduceEqDiff, reduceIte, Int.reduceBNe, Int.reduceBEq]
  refine ⟨fun h => ?_, fun h => ?_⟩
  · cases h
  refine AW.skip ?_; simp only [thenQ, blockQ, reduceIte, Nat.reduceEqDiff]
  refine AW.seq (AW.reg cd36_4 fun K hK => ?_)
  simp only [g36_4, bR, Nat.reduceEqDiff, reduceIte, Int.reduceBNe, Int.reduceBEq]
  simp only [typR, useR, okR, e_fin, bR, Nat.reduceEqDiff, reduceIte, Int.reduceBNe, Int.reduceBEq]
  refine .flat _ (F87 w a b ha hb) rfl ?_
  simp only [bR, Nat.reduceEqDiff, reduceIte, Int.reduceBNe, Int.reduceBEq]
  refine .done (hK _ ?_); clear hK K; simp only [thenQ, blockQ]
  refine AW.ret ?_
  simp only [blockQ, thenQ, bR, Nat.reduceEqDiff, reduceIte, Int.reduceBNe, Int.reduceBEq]
  simp [distR, hw, ha, hb]
end Go.Proofs.Ytkjkbpgdpnapfaa

/-
  FUNCTIONS OF THE PACKAGE mark BY CONTRACT: BinarySearchFunc, find, MarkOf, owners, arePlaces.
-/
namespace Go.Proofs.Ytkjkbpgdpnapfaa
open Go Go.Abs
open Go.Abs.Enc (enc)
theorem okM_len {m : Marks} (h : okM m = true) : m.given.length ≤ 40 := by
  simp only [okM, Bool.and_eq_true, decide_eq_true_eq] at h
  exact h.2.2.1
theorem okM_mark {m : Marks} (h : okM m = true) : ∀ g ∈ m.given, okMark g.mark = true := fun g hg => by
  simp only [okM, Bool.and_eq_true, List.all_eq_true, List.mem_range] at h
  obtain ⟨i, hi, rfl⟩ := List.getElem_of_mem hg
  rw [gv_eq hi]
  exact okAt_mark (h.2.2.2 i hi)
end Go.Proofs.Ytkjkbpgdpnapfaa

/-
  FUNCTIONS OF slices BY CONTRACT, over given marks: DeleteFunc.
-/
namespace Go.Proofs.Ytkjkbpgdpnapfaa
open Go Go.Abs
open Go.Abs.Enc (enc)
theorem F73n (f : FuncId) (caps : List AV) (hcaps : AV.dones caps = true) : Ctr Try.prog 73 [enc ([] : List Given), .func f caps] (enc ([] : List Given)) := by
  refine Ctr.mk' Try.func73 ca73 cc73 cr73 (Nat.le_of_ble_eq_true rfl) (fun hwf W0 D0 E1 => ?_)
  simp only [c73, r73, idx, Nat.zero_add, Nat.reduceAdd]
  have hcl : AV.closeds caps = true := dones_closed caps hcaps
  have hfc : ∀ bx A, fins bx A caps = some caps := fun bx A => fins_dones bx A caps hcaps
  refine AW.seq (AW.reg cd73_0 fun K hK => ?_)
  simp only [g73_0, bR, Nat.reduceEqDiff, reduceIte, Int.reduceBNe, Int.reduceBEq]
  refine .done (hK _ ?_); clear hK K; simp only [thenQ, blockQ]
  refine AW.seq (AW.reg cd73_1 fun K hK => ?_)
  simp only [g73_1, bR, Nat.reduceEqDiff, reduceIte, Int.reduceBNe, Int.reduceBEq]
  simp only [e_fin, hfc, bR, Nat.reduceEqDiff, reduceIte, Int.reduceBNe, Int.reduceBEq]
  refine .flat _ (F108 [] f caps hcaps (fun _ => false) (fun x hx => by cases hx)) rfl ?_
  simp only [List.findIdx?_nil, bR, Nat.reduceEqDiff, reduceIte, Int.reduceBNe, Int.reduceBEq]
  refine .done (hK _ ?_); clear hK K; simp only [thenQ, blockQ]
  refine AW.seq (AW.seq ?_)
  refine AW.reg cd73_2 fun K hK => ?_
  simp only [g73_2, bR, Nat.reduceEqDiff, reduceIte, Int.reduceBNe, Int.reduceBEq]
  refine .done (hK _ ?_); clear hK K; simp only [thenQ, blockQ]
  refine AW.ite ?_
  simp only [condQ, bR, Nat.reduceEqDiff, reduceIte, Int.reduceBNe, Int.reduceBEq]
  refine ⟨fun h => ?_, fun h => ?_⟩
  · refine AW.seq (AW.reg cd73_3 fun K hK => ?_)
    simp only [g73_3, bR, Nat.reduceEqDiff, reduceIte, Int.reduceBNe, Int.reduceBEq]
    refine .done (hK _ ?_); clear hK K; simp only [thenQ, blockQ]
    refine AW.ret ?_
    simp only [blockQ, thenQ, bR, Nat.reduceEqDiff, reduceIte, Int.reduceBNe, Int.reduceBEq]
    simp only [e_fin, bR, Nat.reduceEqDiff, reduceIte, Int.reduceBNe, Int.reduceBEq]
  · cases h
def keep (p : Given → Bool) (l : List Given) : List Given := l.filter fun x => !p x
def delPost (k : Nat) (l : List Given) : Post := fun r os' => ∃ m, r = .view k [] 7 0 l.length ∧ os' = rowG k l m
theorem onlys_rep (p : Nat → Bool) (m : Nat) (x : Given) : AV.onlys p (List.replicate m (enc x)) = true := by
  have : List.replicate m (enc x) = (List.replicate m x).map (enc (α := Given)) := by simp
  rw [this]; exact onlys_map p _
theorem onlys_set (p : Nat → Bool) (xs : List Given) (i : Nat) (v : Given) : AV.onlys p ((xs.map enc).set i (enc v)) = true := by
  rw [← List.map_set]; exact onlys_map p _
theorem rowG_get {xs : List Given} {m j : Nat} (h : j < xs.length) : ((xs ++ List.replicate m g0).map (enc (α := Given)))[0 + j]? = some (enc xs[j]) := by
  rw [Nat.zero_add, List.getElem?_map, List.getElem?_append_left h, List.getElem?_eq_getElem h]; rfl
theorem rowG_set {xs : List Given} {m i : Nat} (h : i < xs.length) (v : Given) : ((xs ++ List.replicate m g0).map (enc (α := Given))).set (0 + i) (enc v) = (xs.set i v ++ List.replicate m g0).map enc := by
  rw [Nat.zero_add, ← List.map_set, List.set_append_left _ _ h]
theorem take_row (l : List Given) (m : Nat) : (l ++ List.replicate m g0).take l.length = l := List.take_left
theorem filter_take_succ (p : Given → Bool) (l : List Given) {j : Nat} (h : j < l.length) : keep p (l.take (j + 1)) = keep p (l.take j) ++ (if p l[j] then [] else [l[j]]) := by
  rw [List.take_succ_eq_append_getElem h]
  simp only [keep, List.filter_append, List.filter_cons, List.filter_nil]
  cases p l[j] <;> simp
theorem F73 (l : List Given) (f : FuncId) (caps : List AV) (hcaps : AV.dones caps = true) (p : Given → Bool) (hf : ∀ x ∈ l, Ctr Try.prog f (enc x :: caps) (enc (p x))) (hlen : l.length ≤ 1000) (m : Nat) :
    CtrO Try.prog 73 [.view 1000000 [] 7 0 l.length, .func f caps] (rowG 1000000 l m) (delPost 1000000 (keep p l)) := by
  refine CtrO.mk' Try.func73 ca73 cc73 cr73 (Nat.le_of_ble_eq_true rfl) (Nat.le_of_ble_eq_true rfl) (fun m hm => by rw [isIn_one.1 hm]; exact Nat.le_refl _) (fun hwf W0 D0 E1 => ?_)
  simp only [c73, r73, idx, Nat.zero_add, Nat.reduceAdd]
  have hcl : AV.closeds caps = true := dones_closed caps hcaps
  have hfc : ∀ bx A, fins bx A caps = some caps := fun bx A => fins_dones bx A caps hcaps
  have hon : ∀ q, AV.onlys q caps = true := fun q => onlys_closed q caps hcl
  simp only [rowG]
  refine AW.seq (AW.reg cd73_0 fun K hK => ?_)
  simp only [g73_0, bR, Nat.reduceEqDiff, reduceIte, Int.reduceBNe, Int.reduceBEq]
  refine .done (hK _ ?_); clear hK K; simp only [thenQ, blockQ]
  refine AW.seq (AW.reg cd73_1 fun K hK => ?_)
  simp only [g73_1, bR, Nat.reduceEqDiff, reduceIte, Int.reduceBNe, Int.reduceBEq]
  simp only [hfc, finV_take (α := Given) (sz := 7) rfl, take_row, bR, Nat.reduceEqDiff, reduceIte, Int.reduceBNe, Int.reduceBEq]
  refine .flat _ (F108 l f caps hcaps p hf) rfl ?_
  simp only [bR, Nat.reduceEqDiff, reduceIte, Int.reduceBNe, Int.reduceBEq]
  refine .done (hK _ ?_); clear hK K; simp only [thenQ, blockQ]
  generalize hfi : l.findIdx? p = fi
  cases fi with
  | none =>
    rw [List.findIdx?_eq_none_iff] at hfi
    have hk : keep p l = l := by
      simp only [keep, List.filter_eq_self]; intro x hx; simp [hfi x hx]
    refine AW.seq (AW.seq ?_)
    refine AW.reg cd73_2 fun K hK => ?_
    simp only [g73_2, bR, Nat.reduceEqDiff, reduceIte, Int.reduceBNe, Int.reduceBEq]
    refine .done (hK _ ?_); clear hK K; simp only [thenQ, blockQ]
    refine AW.ite ?_
    simp only [condQ, bR, Nat.reduceEqDiff, reduceIte, Int.reduceBNe, Int.reduceBEq]
    refine ⟨fun h => ?_, fun h => ?_⟩
    · refine AW.seq (AW.reg cd73_3 fun K hK => ?_)
      simp only [g73_3, bR, Nat.reduceEqDiff, reduceIte, Int.reduceBNe, Int.reduceBEq]
      refine .done (hK _ ?_); clear hK K; simp only [thenQ, blockQ]
      refine AW.ret ?_
      simp only [blockQ, thenQ, retO_ret]
      rw [hk]
      exact ⟨rowG 1000000 l m, [.view 1000000 [] 7 0 l.length], held1 rfl (fun p => map_only p _), ⟨⟨_, rfl, .inl ⟨rfl, rfl, rfl⟩⟩, trivial⟩, m, rfl, rfl⟩
    · cases h
  | some i0 =>
    obtain ⟨q1, q2, q3⟩ := List.findIdx?_eq_some_iff_getElem.1 hfi
    have hstart : l.take i0 = keep p (l.take (i0 + 1)) := by
      rw [filter_take_succ p l q1, q2]
      simp only [if_true, List.append_nil, keep]
      symm
      rw [List.filter_eq_self]
      intro x hx
      rw [List.mem_take_iff_getElem] at hx
      obtain ⟨j, hj, rfl⟩ := hx
      have := q3 j (by omega)
      simpa using this
    refine AW.seq (AW.seq ?_)
    refine AW.reg cd73_2 fun K hK => ?_
    simp only [g73_2, bR, Nat.reduceEqDiff, reduceIte, Int.reduceBNe, Int.reduceBEq]
    refine .done (hK _ ?_); clear hK K; simp only [thenQ, blockQ]
    refine AW.ite ?_
    simp only [condQ, bR, Nat.reduceEqDiff, reduceIte, Int.reduceBNe, Int.reduceBEq]
    refine ⟨fun h => ?_, fun h => ?_⟩
    · simp at h
    refine AW.skip ?_; simp only [thenQ, blockQ, reduceIte, Nat.reduceEqDiff]
    refine AW.seq (AW.seq ?_)
    refine AW.reg cd73_4 fun K hK => ?_
    simp only [g73_4, bR, Nat.reduceEqDiff, reduceIte, Int.reduceBNe, Int.reduceBEq]
    refine .done (hK _ ?_); clear hK K; simp only [thenQ, blockQ]
    refine AW.block (AW.loop (fun s : List Given × Nat × Nat => mkA [(0, .view 1000000 [] 7 0 l.length), (1, .func f caps), (5, .int .i64 s.2.1), (6, .int .i64 s.2.2)] [(1000000, .box (.agg ((s.1 ++ List.replicate m g0).map enc)))])
      (fun s => s.1.length = l.length ∧ s.2.1 < s.2.2 ∧ s.2.2 ≤ l.length ∧ s.1.take s.2.1 = keep p (l.take s.2.2) ∧ s.1.drop s.2.2 = l.drop s.2.2) (fun s => l.length - s.2.2) (l, i0, i0 + 1) ⟨rfl, by simp only; omega, by simp only; omega, hstart, rfl⟩ ?_ ?_)
    · rw [wrap_id _ (by omega) (by omega)]
      refine Sub.of_lists ?_ ?_ ?_ ?_ <;> simp [subT, subO, onlyT, onlyO, isIn, look_cons, lookO_cons, lookO_nil, AV.only, AV.onlys, AO.only, onlys_map, onlys_append, e_only, e_int, e_bool, hon, onlys_rep, onlys_set]
    · rintro ⟨xs, i, j⟩ ⟨c1, c2, c3, c4, c5⟩
      simp only at c1 c2 c3 c4 c5 ⊢
      refine AW.seq (AW.seq ?_)
      refine AW.reg cd73_5 fun K hK => ?_
      simp only [g73_5, bR, Nat.reduceEqDiff, reduceIte, Int.reduceBNe, Int.reduceBEq]
      simp only [viewR, bR, Nat.reduceEqDiff, reduceIte, Int.reduceBNe, Int.reduceBEq]
      refine .done (hK _ ?_); clear hK K; simp only [thenQ, blockQ]
      refine AW.ite ?_
      simp only [condQ, bR, Nat.reduceEqDiff, reduceIte, Int.reduceBNe, Int.reduceBEq]
      refine ⟨fun h => ?_, fun h => ?_⟩
      · have hj : j < l.length := by simpa using h
        have hjx : j < xs.length := by omega
        have hix : i < xs.length := by omega
        have hxj : xs[j] = l[j] := by
          have h1 : (xs.drop j)[0]? = (l.drop j)[0]? := by rw [c5]
          simpa [hj, hjx] using h1
        refine AW.skip ?_; simp only [thenQ, blockQ, reduceIte, Nat.reduceEqDiff]
        refine AW.seq (AW.block ?_)
        refine AW.seq (AW.reg cd73_6 fun K hK => ?_)
        simp only [g73_6, bR, Nat.reduceEqDiff, reduceIte, Int.reduceBNe, Int.reduceBEq]
        simp only [viewR, isV_ok (sz := 7) hj, List.nil_append, bR, Nat.reduceEqDiff, reduceIte, Int.reduceBNe, Int.reduceBEq]
        simp only [rowG_get hjx, hxj, typR, bR, Nat.reduceEqDiff, reduceIte, Int.reduceBNe, Int.reduceBEq]
        rw [stR3_ok (e_isVal _) (by rw [e_okS]; rfl) ((e_sh _).trans rfl)]
        simp only [typR, useR, okR, bR, Nat.reduceEqDiff, reduceIte, Int.reduceBNe, Int.reduceBEq]
        refine .done (hK _ ?_); clear hK K; simp only [thenQ, blockQ]
        refine AW.seq (AW.reg cd73_7 fun K hK => ?_)
        simp only [g73_7, bR, Nat.reduceEqDiff, reduceIte, Int.reduceBNe, Int.reduceBEq]
        simp only [typR, useR, okR, e_fin, hfc, List.cons_append, List.nil_append, bR, Nat.reduceEqDiff, reduceIte, Int.reduceBNe, Int.reduceBEq]
        refine .flat _ (hf _ (List.getElem_mem hj)) rfl ?_
        simp only [bR, Nat.reduceEqDiff, reduceIte, Int.reduceBNe, Int.reduceBEq]
        refine .done (hK _ ?_); clear hK K; simp only [thenQ, blockQ]
        refine AW.ite ?_
        simp only [condQ, bR, Nat.reduceEqDiff, reduceIte, Int.reduceBNe, Int.reduceBEq]
        refine ⟨fun h => ?_, fun h => ?_⟩
        · have hpj : p l[j] = false := by simpa using h
          refine AW.seq (AW.reg cd73_8 fun K hK => ?_)
          simp only [g73_8, bR, Nat.reduceEqDiff, reduceIte, Int.reduceBNe, Int.reduceBEq]
          simp only [typR, useR, okR, e_fin, viewR, isV_ok (sz := 7) (show i < l.length by omega), List.nil_append, bR, Nat.reduceEqDiff, reduceIte, Int.reduceBNe, Int.reduceBEq]
          simp only [rowG_get hix, bR, Nat.reduceEqDiff, reduceIte, Int.reduceBNe, Int.reduceBEq]
          rw [stR3_ok (e_isVal _) (by rw [e_okS]; rfl) ((e_sh _).trans (e_sh _).symm)]
          simp only [rowG_get hix, rowG_set hix, bR, Nat.reduceEqDiff, reduceIte, Int.reduceBNe, Int.reduceBEq]
          refine .done (hK _ ?_); clear hK K; simp only [thenQ, blockQ]
          refine AW.reg cd73_9 fun K hK => ?_
          simp only [g73_9, bR, Nat.reduceEqDiff, reduceIte, Int.reduceBNe, Int.reduceBEq]
          refine .done (hK _ ?_); clear hK K; simp only [thenQ, blockQ]
          refine AW.reg cd73_10 fun K hK => ?_
          simp only [g73_10, bR, Nat.reduceEqDiff, reduceIte, Int.reduceBNe, Int.reduceBEq]
          refine .done (hK _ ?_); clear hK K; simp only [thenQ, blockQ]
          refine ⟨(xs.set i l[j], i + 1, j + 1), ⟨by simp [c1], by simp only; omega, by simp only; omega, ?_, ?_⟩, by simp only; omega, ?_⟩
          · simp only
            rw [filter_take_succ p l hj, hpj, ← c4]
            simp only [Bool.false_eq_true, if_false]
            rw [List.take_succ_eq_append_getElem (by simpa using hix), List.take_set_of_le (Nat.le_refl _)]
            simp
          · simp only
            rw [List.drop_set_of_lt (by omega)]
            have : (xs.drop j).drop 1 = (l.drop j).drop 1 := by rw [c5]
            simpa [List.drop_drop] using this
          · simp only
            rw [wrap_id _ (by omega) (by omega), wrap_id _ (by omega) (by omega)]
            refine Sub.of_lists ?_ ?_ ?_ ?_ <;> simp [subT, subO, onlyT, onlyO, isIn, look_cons, lookO_cons, lookO_nil, AV.only, AV.onlys, AO.only, onlys_map, onlys_append, e_only, e_int, e_bool, hon, onlys_rep, onlys_set]
        · have hpj : p l[j] = true := by simpa using h
          refine AW.skip ?_; simp only [thenQ, blockQ, reduceIte, Nat.reduceEqDiff]
          refine AW.reg cd73_10 fun K hK => ?_
          simp only [g73_10, bR, Nat.reduceEqDiff, reduceIte, Int.reduceBNe, Int.reduceBEq]
          refine .done (hK _ ?_); clear hK K; simp only [thenQ, blockQ]
          refine ⟨(xs, i, j + 1), ⟨c1, by simp only; omega, by simp only; omega, ?_, ?_⟩, by simp only; omega, ?_⟩
          · simp only
            rw [filter_take_succ p l hj, hpj, ← c4]
            simp
          · simp only
            have : (xs.drop j).drop 1 = (l.drop j).drop 1 := by rw [c5]
            simpa [List.drop_drop] using this
          · simp only
            rw [wrap_id _ (by omega) (by omega)]
            refine Sub.of_lists ?_ ?_ ?_ ?_ <;> simp [subT, subO, onlyT, onlyO, isIn, look_cons, lookO_cons, lookO_nil, AV.only, AV.onlys, AO.only, onlys_map, onlys_append, e_only, e_int, e_bool, hon, onlys_rep, onlys_set]
      · have hj : j = l.length := by simp at h; omega
        subst hj
        rw [List.take_length] at c4
        have hlk : (keep p l).length = i := by rw [← c4, List.length_take]; omega
        have htot : ((xs ++ List.replicate m g0).map (enc (α := Given))).length = l.length + m := by simp [c1]
        refine AW.exit ?_; simp only [thenQ, blockQ, reduceIte, Nat.reduceEqDiff]
        refine AW.seq (AW.reg cd73_11 fun K hK => ?_)
        simp only [g73_11, bR, Nat.reduceEqDiff, reduceIte, Int.reduceBNe, Int.reduceBEq]
        simp only [viewR, htot, Option.map_none, sliceV_lo (show i ≤ l.length by omega) (show l.length ≤ l.length + m by omega) (show i < l.length + m by omega), e_g0, bR, Nat.reduceEqDiff, reduceIte, Int.reduceBNe, Int.reduceBEq]
        rw [clrO_enc g0 rfl (by simp [c1]; omega)]
        have hcont : (xs ++ List.replicate m g0).take i ++ (List.replicate (l.length - i) g0 ++ (xs ++ List.replicate m g0).drop (i + (l.length - i))) = keep p l ++ List.replicate (l.length - i + m) g0 := by
          rw [List.take_append_of_le_length (by omega), c4]
          have e1 : i + (l.length - i) = xs.length := by omega
          rw [e1, List.drop_left, List.replicate_append_replicate]
        rw [hcont]
        simp only [bR, Nat.reduceEqDiff, reduceIte, Int.reduceBNe, Int.reduceBEq]
        refine .done (hK _ ?_); clear hK K; simp only [thenQ, blockQ]
        have htot2 : ((keep p l ++ List.replicate (l.length - i + m) g0).map (enc (α := Given))).length = l.length + m := by simp [hlk]; omega
        refine AW.seq (AW.reg cd73_12 fun K hK => ?_)
        simp only [g73_12, bR, Nat.reduceEqDiff, reduceIte, Int.reduceBNe, Int.reduceBEq]
        simp only [viewR, htot2, Option.map_none, sliceV_hi (show i ≤ l.length + m by omega) (show 0 < l.length + m by omega), bR, Nat.reduceEqDiff, reduceIte, Int.reduceBNe, Int.reduceBEq]
        refine .done (hK _ ?_); clear hK K; simp only [thenQ, blockQ]
        refine AW.ret ?_
        simp only [blockQ, thenQ, retO_ret]
        exact ⟨rowG 1000000 (keep p l) (l.length - i + m), [.view 1000000 [] 7 0 i], held1 rfl (fun p => map_only p _), ⟨⟨_, rfl, .inl ⟨rfl, rfl, rfl⟩⟩, trivial⟩, l.length - i + m, by rw [hlk]; rfl, rfl⟩
end Go.Proofs.Ytkjkbpgdpnapfaa

/-
  FUNCTIONS OF THE PACKAGE mark BY CONTRACT: possible, owners, Owners, Owner.
-/
namespace Go.Proofs.Ytkjkbpgdpnapfaa
open Go Go.Abs
open Go.Abs.Enc (enc)
theorem F105 (m : Marks) (r : Arr 6 Int) (g : Given) (hg : okMark g.mark = true) : Ctr Try.prog 105 (enc g :: [.ref (enc m), .ref (enc r)]) (enc (decide (m.fls < costOf m.wear g.mark r))) := by
  refine Ctr.mk' Try.func105 ca105 cc105 cr105 (Nat.le_of_ble_eq_true rfl) (fun hwf W0 D0 E1 => ?_)
  simp only [c105, r105, idx, Nat.zero_add, Nat.reduceAdd]
  refine AW.seq (AW.reg cd105_0 fun K hK => ?_)
  simp only [g105_0, bR, Nat.reduceEqDiff, reduceIte, Int.reduceBNe, Int.reduceBEq]
  simp only [e_isVal, bR, Nat.reduceEqDiff, reduceIte, Int.reduceBNe, Int.reduceBEq]
  refine .done (hK _ ?_); clear hK K; simp only [thenQ, blockQ]
  refine AW.seq (AW.reg cd105_1 fun K hK => ?_)
  simp only [g105_1, bR, Nat.reduceEqDiff, reduceIte, Int.reduceBNe, Int.reduceBEq]
  simp only [typR, useR, okR, e_fin, bR, Nat.reduceEqDiff, reduceIte, Int.reduceBNe, Int.reduceBEq]
  refine .flat _ (F88 m.wear g.mark r hg) rfl ?_
  simp only [typR, useR, okR, bR, Nat.reduceEqDiff, reduceIte, Int.reduceBNe, Int.reduceBEq]
  refine .done (hK _ ?_); clear hK K; simp only [thenQ, blockQ]
  refine AW.ret ?_
  simp only [blockQ, thenQ, bR, Nat.reduceEqDiff, reduceIte, Int.reduceBNe, Int.reduceBEq]
def possG (m : Marks) (r : Arr 6 Int) : List Given := keep (fun g => decide (m.fls < costOf m.wear g.mark r)) m.given
def possPost (d : Nat) (m : Marks) (r : Arr 6 Int) : Post := fun x os' => (possG m r = [] ∧ x = enc ([] : List Given) ∧ os' = []) ∨ ∃ k, x = .view d [] 7 0 (possG m r).length ∧ os' = rowG d (possG m r) k
theorem F65 (m : Marks) (r : Arr 6 Int) (hm : ∀ g ∈ m.given, okMark g.mark = true) (hlen : m.given.length ≤ 1000) : CtrO Try.prog 65 [enc m, enc r] [] (possPost 7 m r) := by
  refine CtrO.mk' Try.func65 ca65 cc65 cr65 (Nat.le_of_ble_eq_true rfl) (Nat.le_of_ble_eq_true rfl) (fun m hm => by simp [isIn, lookO] at hm) (fun hwf W0 D0 E1 => ?_)
  simp only [c65, r65, idx, Nat.zero_add, Nat.reduceAdd]
  refine AW.seq (AW.reg cd65_0 fun K hK => ?_)
  simp only [g65_0, bR, Nat.reduceEqDiff, reduceIte, Int.reduceBNe, Int.reduceBEq]
  simp only [e_isVal, bR, Nat.reduceEqDiff, reduceIte, Int.reduceBNe, Int.reduceBEq]
  refine .done (hK _ ?_); clear hK K; simp only [thenQ, blockQ]
  refine AW.seq (AW.reg cd65_1 fun K hK => ?_)
  simp only [g65_1, bR, Nat.reduceEqDiff, reduceIte, Int.reduceBNe, Int.reduceBEq]
  simp only [typR, useR, okR, e_fin, bR, Nat.reduceEqDiff, reduceIte, Int.reduceBNe, Int.reduceBEq]
  refine .obj false [(7, 7)] [] [enc m.given] (clonePost m.given) rfl (F85 m.given hlen) Gvn.nil ⟨.inl ⟨(e_ren _ _).symm, e_only _ _, e_isVal _⟩, trivial⟩ ?_ ?_
  · rintro x os' (⟨_, h | h, rfl⟩ | ⟨_, k, rfl, rfl⟩)
    · subst h; exact Bck.nil (fun _ => rfl) (fun h => by cases h)
    · subst h; exact Bck.nil (fun _ => rfl) (fun h => by cases h)
    · exact Bck.new1 (fun p => map_only p _) (fun h => by cases h) rfl (fun h => by cases h) rfl (by decide)
  · have hd : AV.dones [.ref (enc m), .ref (enc r)] = true := by simp only [AV.dones, AV.done, e_closed, Bool.and_self]
    rintro x os' (⟨hn, h, rfl⟩ | ⟨hn, k, rfl, rfl⟩)
    · have hp : possG m r = [] := by simp [possG, keep, hn]
      have key : ∀ x, (x = .nils 7 ∨ x = .c0 7) → fin true (mkA [] []) x = some (enc ([] : List Given)) := by rintro x (rfl | rfl) <;> rfl
      have hren : ∀ x : AV, (x = .nils 7 ∨ x = .c0 7) → x.ren (rnm [(7, 7)]) = x ∧ x.isVal = true := by rintro x (rfl | rfl) <;> exact ⟨by simp only [AV.ren], rfl⟩
      rw [(hren x h).1]
      simp only [renR, List.nil_append, List.all_cons, List.all_nil, AV.isVal, Bool.and_self, bR, Nat.reduceEqDiff, reduceIte, Int.reduceBNe, Int.reduceBEq]
      have hfx : ∀ A, fin true A x = some (enc ([] : List Given)) := fun A => by rcases h with rfl | rfl <;> simp only [fin, e_list, List.map_nil] <;> rfl
      refine .free [2, 3] (enc ([] : List Given)) rfl (F73n 105 [.ref (enc m), .ref (enc r)] hd) ?_ ?_ ?_
      · simp only [hfx, keepO, List.filter_cons, List.filter_nil, List.contains_cons, Nat.reduceBEq, Bool.or_false, Bool.or_true, Bool.true_or, BEq.rfl, e_closed, bR, Nat.reduceEqDiff, reduceIte, Int.reduceBNe, Int.reduceBEq]
      · simp [dropO, onlyO]
      · simp only [fgt, dropO, List.filter_cons, List.filter_nil, List.contains_cons, Nat.reduceBEq, Bool.or_false, Bool.or_true, Bool.true_or, BEq.rfl, List.map_cons, List.map_nil, bR, Nat.reduceEqDiff, reduceIte, Int.reduceBNe, Int.reduceBEq]
        refine .done (hK _ ?_); clear hK K; simp only [thenQ, blockQ]
        refine AW.ret ?_
        simp only [blockQ, thenQ, retO_ret]
        exact ⟨[], [enc ([] : List Given)], held0, ⟨⟨_, rfl, .inl ⟨rfl, rfl, rfl⟩⟩, trivial⟩, .inl ⟨hp, rfl, rfl⟩⟩
    · simp only [rowG, renR, rens_map_enc, List.cons_append, List.nil_append, List.all_cons, List.all_nil, AV.isVal, Bool.and_self, bR, Nat.reduceEqDiff, reduceIte, Int.reduceBNe, Int.reduceBEq]
      refine .obj true [(1000000, 7)] (rowG 1000000 m.given k) [.view 1000000 [] 7 0 m.given.length, .func 105 [.ref (enc m), .ref (enc r)]] (delPost 1000000 (possG m r)) rfl
        (F73 m.given 105 [.ref (enc m), .ref (enc r)] hd (fun g => decide (m.fls < costOf m.wear g.mark r)) (fun g hg => F105 m r g (hm g hg)) hlen k) ⟨?_, ?_⟩ ⟨.inl ⟨?_, ?_, rfl⟩, .inr ?_, trivial⟩ ?_ ?_
      · intro n x h
        simp only [rowG, lookO] at h
        split at h
        · rename_i hn'
          subst hn'
          simp only [Option.some.injEq] at h
          subst h
          exact ⟨by simp only [renR, rens_map_enc, bR, Nat.reduceEqDiff, reduceIte, Int.reduceBNe, Int.reduceBEq], map_only _ _, rfl⟩
        · cases h
      · intro a b ha hb _
        rw [isIn_one.1 ha, isIn_one.1 hb]
      · simp only [renR, bR, Nat.reduceEqDiff, reduceIte, Int.reduceBNe, Int.reduceBEq]
      · exact isIn_one.2 rfl
      · simp only [names, rowG, rnm, dropO, List.filter_cons, List.filter_nil, List.map_cons, List.map_nil, List.contains_cons, List.contains_nil, Nat.reduceBEq, Bool.or_false, Bool.or_true, Bool.true_or, BEq.rfl, e_closed, bR, Nat.reduceEqDiff, reduceIte, Int.reduceBNe, Int.reduceBEq]
      · rintro x os' ⟨k', rfl, rfl⟩
        exact Bck.one (fun p => map_only p _) (fun _ => map_lean _) (isIn_one.2 rfl) (fun _ => rfl)
      · rintro x os' ⟨k', rfl, rfl⟩
        simp only [rowG, renR, rens_map_enc, List.cons_append, List.nil_append, bR, Nat.reduceEqDiff, reduceIte, Int.reduceBNe, Int.reduceBEq]
        refine .done (hK _ ?_); clear hK K; simp only [thenQ, blockQ]
        refine AW.ret ?_
        simp only [blockQ, thenQ, retO_ret]
        exact ⟨rowG 7 (possG m r) k', [.view 7 [] 7 0 (possG m r).length], held1 rfl (fun p => map_only p _), ⟨⟨_, rfl, .inl ⟨rfl, rfl, rfl⟩⟩, trivial⟩, .inr ⟨k', rfl, rfl⟩⟩
end Go.Proofs.Ytkjkbpgdpnapfaa

/-
  FUNCTIONS OF THE PACKAGE mark BY CONTRACT: owners, Owners, Owner.
-/
namespace Go.Proofs.Ytkjkbpgdpnapfaa
open Go Go.Abs
open Go.Abs.Enc (enc)
def ownL (l : List Given) (i : Nat) : List Int := (l.take i).map (·.owner)
theorem ownL_zero (l : List Given) : ownL l 0 = [] := by simp [ownL]
theorem ownL_succ {l : List Given} {i : Nat} (h : i < l.length) : ownL l (i + 1) = ownL l i ++ [l[i].owner] := by
  simp only [ownL]; rw [List.take_succ_eq_append_getElem h, List.map_append]; rfl
theorem ownL_len {l : List Given} {i : Nat} (h : i ≤ l.length) : (ownL l i).length = i := by simp [ownL]; omega
theorem ownL_all (l : List Given) : ownL l l.length = l.map (·.owner) := by simp [ownL]
theorem F72 (l : List Given) (hlen : l.length ≤ 1000) : Ctr Try.prog 72 [enc l] (enc (l.map (·.owner))) := by
  refine Ctr.mk' Try.func72 ca72 cc72 cr72 (Nat.le_of_ble_eq_true rfl) (fun hwf W0 D0 E1 => ?_)
  simp only [c72, r72, idx, Nat.zero_add, Nat.reduceAdd]
  refine AW.seq (AW.reg cd72_0 fun K hK => ?_)
  simp only [g72_0, bR, Nat.reduceEqDiff, reduceIte, Int.reduceBNe, Int.reduceBEq]
  refine .done (hK _ ?_); clear hK K; simp only [thenQ, blockQ]
  refine AW.seq (AW.reg cd72_1 fun K hK => ?_)
  simp only [g72_1, bR, Nat.reduceEqDiff, reduceIte, Int.reduceBNe, Int.reduceBEq]
  refine .done (hK _ ?_); clear hK K; simp only [thenQ, blockQ]
  refine AW.seq ?_
  refine AW.seq (AW.reg cd72_2 fun K hK => ?_)
  simp only [g72_2, useR, bR, Nat.reduceEqDiff, reduceIte, Int.reduceBNe, Int.reduceBEq]
  refine .done (hK _ ?_); clear hK K; simp only [thenQ, blockQ]
  refine AW.block (AW.loop (fun i : Nat => mkA [(3, .own 3 (ownL l i).length), (6, enc l), (7, .int .i64 l.length), (8, .int .i64 i)] [(3, .row 3 1 ((ownL l i).map enc))]) (fun i => i ≤ l.length) (fun i => l.length - i) 0 (Nat.zero_le _) ?_ (fun i hi => ?_))
  · refine Sub.adoptL 3 3 3 1 1 ?_ ?_ ?_
    · simp only [absR, Nat.reduceEqDiff, reduceIte]
    · simp only [absR]
    · simp only [ownL_zero, List.map_nil, List.length_nil]
      refine Sub.of_lists ?_ ?_ ?_ ?_ <;> simp [subT, subO, onlyT, onlyO, isIn, look_cons, lookO_cons, lookO_nil, AV.only, AV.onlys, AO.only, onlys_map, onlys_append, e_only, e_int, e_bool]
  · refine AW.seq (AW.reg cd72_3 fun K hK => ?_)
    simp only [g72_3, bR, Nat.reduceEqDiff, reduceIte, Int.reduceBNe, Int.reduceBEq]
    refine .done (hK _ ?_); clear hK K; simp only [thenQ, blockQ]
    refine AW.seq ?_
    refine AW.ite ?_
    simp only [condQ, bR, Nat.reduceEqDiff, reduceIte, Int.reduceBNe, Int.reduceBEq]
    refine ⟨fun h => ?_, fun h => ?_⟩
    · have hlt : i < l.length := by simpa using h
      refine AW.skip ?_; simp only [thenQ, blockQ, reduceIte, Nat.reduceEqDiff]
      refine AW.seq (AW.block ?_)
      refine AW.seq (AW.reg cd72_4 fun K hK => ?_)
      simp only [g72_4, bR, Nat.reduceEqDiff, reduceIte, Int.reduceBNe, Int.reduceBEq]
      simp only [isE_nat 7 hlt rfl, typR, okR, bR, Nat.reduceEqDiff, reduceIte, Int.reduceBNe, Int.reduceBEq]
      rw [stR3_ok (e_isVal _) (by rw [e_okS]; rfl) ((e_sh _).trans rfl)]
      simp only [typR, useR, okR, bR, Nat.reduceEqDiff, reduceIte, Int.reduceBNe, Int.reduceBEq]
      refine .done (hK _ ?_); clear hK K; simp only [thenQ, blockQ]
      refine AW.reg cd72_5 fun K hK => ?_
      simp only [g72_5, bR, Nat.reduceEqDiff, reduceIte, Int.reduceBNe, Int.reduceBEq]
      simp only [typR, useR, okR, bR, Nat.reduceEqDiff, reduceIte, Int.reduceBNe, Int.reduceBEq]
      rw [appR3_enc 3 1 8 3 rfl rfl (by simp) (by simp [maxLen, ownL_len hi]; omega) (by simp [ownL_len hi]; omega)]
      simp only [bR, Nat.reduceEqDiff, reduceIte, Int.reduceBNe, Int.reduceBEq]
      refine .done (hK _ ?_); clear hK K; simp only [thenQ, blockQ]
      refine AW.reg cd72_6 fun K hK => ?_
      simp only [g72_6, bR, Nat.reduceEqDiff, reduceIte, Int.reduceBNe, Int.reduceBEq]
      refine .done (hK _ ?_); clear hK K; simp only [thenQ, blockQ]
      refine ⟨i + 1, by omega, by omega, ?_⟩
      rw [wrap_id _ (by omega) (by omega), ownL_succ hlt]
      refine Sub.of_lists ?_ ?_ ?_ ?_ <;> simp [subT, subO, onlyT, onlyO, isIn, look_cons, lookO_cons, lookO_nil, AV.only, AV.onlys, AO.only, onlys_map, onlys_append, e_only, e_int, e_bool]
    · have hge : i = l.length := by simp at h; omega
      subst hge
      refine AW.exit ?_; simp only [thenQ, blockQ, reduceIte, Nat.reduceEqDiff]
      refine AW.seq (AW.reg cd72_7 fun K hK => ?_)
      simp only [g72_7, bR, Nat.reduceEqDiff, reduceIte, Int.reduceBNe, Int.reduceBEq]
      refine .done (hK _ ?_); clear hK K; simp only [thenQ, blockQ]
      refine AW.ret ?_
      simp only [blockQ, thenQ, ownL_all, bR, Nat.reduceEqDiff, reduceIte, Int.reduceBNe, Int.reduceBEq]
theorem possG_owners (m : Marks) (r : Arr 6 Int) : (possG m r).map (·.owner) = ownersIn m r m.given := by
  simp only [possG, keep, ownersIn]
  congr 1
  refine List.filter_congr fun g _ => ?_
  by_cases h : m.fls < costOf m.wear g.mark r
  · have : ¬ costOf m.wear g.mark r ≤ m.fls := by omega
    simp [h, this]
  · have : costOf m.wear g.mark r ≤ m.fls := by omega
    simp [h, this]
theorem F26 (m : Marks) (r : Arr 6 Int) : Ctr Try.prog 26 [enc m, enc r] (.tuple [enc (ownersOf m r).1, enc (ownersOf m r).2]) := by
  refine Ctr.mk' Try.func26 ca26 cc26 cr26 (Nat.le_of_ble_eq_true rfl) (fun hwf W0 D0 E1 => ?_)
  simp only [c26, r26, idx, Nat.zero_add, Nat.reduceAdd]
  refine AW.seq (AW.reg cd26_0 fun K hK => ?_)
  simp only [g26_0, bR, Nat.reduceEqDiff, reduceIte, Int.reduceBNe, Int.reduceBEq]
  simp only [e_isVal, bR, Nat.reduceEqDiff, reduceIte, Int.reduceBNe, Int.reduceBEq]
  refine .done (hK _ ?_); clear hK K; simp only [thenQ, blockQ]
  refine AW.seq ?_
  refine AW.seq (AW.reg cd26_1 fun K hK => ?_)
  simp only [g26_1, bR, Nat.reduceEqDiff, reduceIte, Int.reduceBNe, Int.reduceBEq]
  simp only [typR, useR, okR, e_fin, bR, Nat.reduceEqDiff, reduceIte, Int.reduceBNe, Int.reduceBEq]
  refine .flat _ (F47 m) rfl ?_
  simp only [typR, useR, okR, e_fin, bR, Nat.reduceEqDiff, reduceIte, Int.reduceBNe, Int.reduceBEq]
  refine .flat _ (F45 r) rfl ?_
  simp only [typR, useR, okR, e_fin, bs2, bR, Nat.reduceEqDiff, reduceIte, Int.reduceBNe, Int.reduceBEq]
  refine .flat _ (F64 _) rfl ?_
  rw [first2 _ _ 13 12 (by decide) (by decide)]
  simp only [bR, Nat.reduceEqDiff, reduceIte, Int.reduceBNe, Int.reduceBEq]
  refine .done (hK _ ?_); clear hK K; simp only [thenQ, blockQ]
  generalize hw : okM m = bw
  generalize hr : okReading r = br
  cases bw
  · refine AW.seq (AW.reg cd26_2 fun K hK => ?_)
    simp only [g26_2, bR, Nat.reduceEqDiff, reduceIte, Int.reduceBNe, Int.reduceBEq]
    refine .done (hK _ ?_); clear hK K; simp only [thenQ, blockQ]
    refine AW.ite ?_
    simp only [condQ, bR, Nat.reduceEqDiff, reduceIte, Int.reduceBNe, Int.reduceBEq]
    refine ⟨fun h => ?_, fun h => ?_⟩
    · refine AW.seq (AW.reg cd26_3 fun K hK => ?_)
      simp only [g26_3, bR, Nat.reduceEqDiff, reduceIte, Int.reduceBNe, Int.reduceBEq]
      refine .done (hK _ ?_); clear hK K; simp only [thenQ, blockQ]
      refine AW.ret ?_
      simp only [blockQ, thenQ, bR, Nat.reduceEqDiff, reduceIte, Int.reduceBNe, Int.reduceBEq]
      simp [ownersOf, hw, nilInt]
    · cases h
  cases br
  · refine AW.seq (AW.reg cd26_2 fun K hK => ?_)
    simp only [g26_2, bR, Nat.reduceEqDiff, reduceIte, Int.reduceBNe, Int.reduceBEq]
    refine .done (hK _ ?_); clear hK K; simp only [thenQ, blockQ]
    refine AW.ite ?_
    simp only [condQ, bR, Nat.reduceEqDiff, reduceIte, Int.reduceBNe, Int.reduceBEq]
    refine ⟨fun h => ?_, fun h => ?_⟩
    · refine AW.seq (AW.reg cd26_3 fun K hK => ?_)
      simp only [g26_3, bR, Nat.reduceEqDiff, reduceIte, Int.reduceBNe, Int.reduceBEq]
      refine .done (hK _ ?_); clear hK K; simp only [thenQ, blockQ]
      refine AW.ret ?_
      simp only [blockQ, thenQ, bR, Nat.reduceEqDiff, reduceIte, Int.reduceBNe, Int.reduceBEq]
      simp [ownersOf, hw, hr, nilInt]
    · cases h
  refine AW.seq (AW.reg cd26_2 fun K hK => ?_)
  simp only [g26_2, bR, Nat.reduceEqDiff, reduceIte, Int.reduceBNe, Int.reduceBEq]
  refine .done (hK _ ?_); clear hK K; simp only [thenQ, blockQ]
  refine AW.ite ?_
  simp only [condQ, bR, Nat.reduceEqDiff, reduceIte, Int.reduceBNe, Int.reduceBEq]
  refine ⟨fun h => ?_, fun h => ?_⟩
  · cases h
  refine AW.skip ?_; simp only [thenQ, blockQ, reduceIte, Nat.reduceEqDiff]
  have hlen : m.given.length ≤ 1000 := by have := okM_len hw; omega
  have hpl : (possG m r).length ≤ 1000 := Nat.le_trans (List.length_filter_le _ _) hlen
  refine AW.seq (AW.reg cd26_4 fun K hK => ?_)
  simp only [g26_4, bR, Nat.reduceEqDiff, reduceIte, Int.reduceBNe, Int.reduceBEq]
  simp only [typR, useR, okR, e_fin, bR, Nat.reduceEqDiff, reduceIte, Int.reduceBNe, Int.reduceBEq]
  refine .obj false [(7, 18)] [] [enc m, enc r] (possPost 7 m r) rfl (F65 m r (okM_mark hw) hlen) Gvn.nil ⟨.inl ⟨(e_ren _ _).symm, e_only _ _, e_isVal _⟩, .inl ⟨(e_ren _ _).symm, e_only _ _, e_isVal _⟩, trivial⟩ ?_ ?_
  · rintro x os' (⟨_, rfl, rfl⟩ | ⟨k, rfl, rfl⟩)
    · exact Bck.nil (fun _ => rfl) (fun h => by cases h)
    · exact Bck.new1 (fun p => map_only p _) (fun h => by cases h) rfl (fun h => by cases h) rfl (by decide)
  · rintro x os' (⟨hp, rfl, rfl⟩ | ⟨k, rfl, rfl⟩)
    · simp only [e_ren, renR, List.nil_append, e_fin, bR, Nat.reduceEqDiff, reduceIte, Int.reduceBNe, Int.reduceBEq]
      refine .lead _ (F72 [] (by simp)) ?_
      simp only [List.map_nil, bR, Nat.reduceEqDiff, reduceIte, Int.reduceBNe, Int.reduceBEq]
      refine .done (hK _ ?_); clear hK K; simp only [thenQ, blockQ]
      refine AW.ret ?_
      simp only [blockQ, thenQ, bR, Nat.reduceEqDiff, reduceIte, Int.reduceBNe, Int.reduceBEq]
      simp only [e_fin, bR, Nat.reduceEqDiff, reduceIte, Int.reduceBNe, Int.reduceBEq]
      simp [ownersOf, hw, hr, ← possG_owners, hp]
    · simp only [rowG, renR, rens_map_enc, List.cons_append, List.nil_append, bR, Nat.reduceEqDiff, reduceIte, Int.reduceBNe, Int.reduceBEq]
      refine .free [18] _ rfl (F72 (possG m r) hpl) ?_ ?_ ?_
      · simp only [keepO, List.filter_cons, List.filter_nil, List.contains_cons, List.contains_nil, Nat.reduceBEq, Bool.or_false, Bool.or_true, Bool.true_or, BEq.rfl, finV_take (α := Given) (sz := 7) rfl, take_row, bR, Nat.reduceEqDiff, reduceIte, Int.reduceBNe, Int.reduceBEq]
      · simp [dropO, onlyO, AO.only, e_only]
      · simp only [fgt, dropO, List.filter_cons, List.filter_nil, List.contains_cons, List.contains_nil, Nat.reduceBEq, Bool.or_false, Bool.or_true, Bool.true_or, BEq.rfl, AV.only, e_only, bR, Nat.reduceEqDiff, reduceIte, Int.reduceBNe, Int.reduceBEq]
        refine .done (hK _ ?_); clear hK K; simp only [thenQ, blockQ]
        refine AW.ret ?_
        simp only [blockQ, thenQ, bR, Nat.reduceEqDiff, reduceIte, Int.reduceBNe, Int.reduceBEq]
        simp only [e_fin, bR, Nat.reduceEqDiff, reduceIte, Int.reduceBNe, Int.reduceBEq]
        simp [ownersOf, hw, hr, possG_owners]
end Go.Proofs.Ytkjkbpgdpnapfaa

/-
  ARRAYS WRITTEN PLACE BY PLACE; by contract: Numbered.
-/
namespace Go.Proofs.Ytkjkbpgdpnapfaa
open Go Go.Abs
open Go.Abs.Enc (enc)
def upd {n : Nat} (x : Arr n Int) (k : Nat) (v : Int) : Arr n Int := ⟨x.l.set k v, by simp [x.h]⟩
theorem setAt_g {n k : Nat} (x : Arr n Int) (h : k < n) (v : Int) : (enc x : AV).setAt [k] (.int .i64 v) = enc (upd x k v) := by
  have h1 : (enc x : AV).flds = some (x.l.map enc) := rfl
  rw [setAt_cons, h1]
  simp only [setL, get_g x h, setO2, setAt_nil]
  change AV.agg _ = AV.agg ((x.l.set k v).map enc)
  rw [List.map_set]; rfl
theorem stR3_g {A : AState} {n m k : Nat} (x : Arr m Int) (h : k < m) {v u : Int} {rest : List G} : stR3 A none n [k] (enc x) (.int .i64 v) rest (some (.int .i64 u)) = aops rest (A.setO n (.box (enc (upd x k v)))) := by
  rw [stR3_ok (s := none) (v := .int .i64 v) (old := .int .i64 u) rfl rfl rfl, setAt_g x h]
def nd (n : Int) : Nat → Int
  | 0 => n
  | k + 1 => (nd n k).tdiv 5
def digits (n : Int) : Nat → Arr 6 Int
  | 0 => zero6
  | k + 1 => upd (digits n k) (5 - k) ((nd n k).tmod 5)
end Go.Proofs.Ytkjkbpgdpnapfaa

/-
  FUNCTIONS OF mark BY CONTRACT: the iterator marks.
-/
namespace Go.Proofs.Ytkjkbpgdpnapfaa
open Go Go.Abs
open Go.Abs.Enc (enc)
/-- The digits of a number in base five, six places. -/
def dg (k : Nat) : Nat → Int
  | 0 => ((k / 5 / 5 / 5 / 5 / 5 % 5 : Nat) : Int)
  | 1 => ((k / 5 / 5 / 5 / 5 % 5 : Nat) : Int)
  | 2 => ((k / 5 / 5 / 5 % 5 : Nat) : Int)
  | 3 => ((k / 5 / 5 % 5 : Nat) : Int)
  | 4 => ((k / 5 % 5 : Nat) : Int)
  | 5 => ((k % 5 : Nat) : Int)
  | _ => 0
def dgs (k : Nat) : Arr 6 Int := ⟨[dg k 0, dg k 1, dg k 2, dg k 3, dg k 4, dg k 5], rfl⟩
/-- The places behind i are nought. -/
def carry (k : Nat) : Nat → Arr 6 Int
  | 0 => ⟨[dg k 0, 0, 0, 0, 0, 0], rfl⟩
  | 1 => ⟨[dg k 0, dg k 1, 0, 0, 0, 0], rfl⟩
  | 2 => ⟨[dg k 0, dg k 1, dg k 2, 0, 0, 0], rfl⟩
  | 3 => ⟨[dg k 0, dg k 1, dg k 2, dg k 3, 0, 0], rfl⟩
  | 4 => ⟨[dg k 0, dg k 1, dg k 2, dg k 3, dg k 4, 0], rfl⟩
  | _ => dgs k
def fours : Arr 6 Int := ⟨[4, 4, 4, 4, 4, 4], rfl⟩
def upto : Nat → Arr 6 Int
  | 0 => zero6
  | i + 1 => upd (upto i) i 4
theorem upto6 : upto 6 = fours := rfl
theorem dgs0 : dgs 0 = zero6 := rfl
theorem dg_in (k i : Nat) : 0 ≤ dg k i ∧ dg k i ≤ 4 := by
  unfold dg; split <;> omega
theorem carry_g (k : Nat) : ∀ i, i < 6 → (carry k i).g i = dg k i
  | 0, _ | 1, _ | 2, _ | 3, _ | 4, _ | 5, _ => rfl
  | n + 6, h => absurd h (by omega)
theorem carry_down (k : Nat) : ∀ i, i + 1 < 6 → upd (carry k (i + 1)) (i + 1) 0 = carry k i
  | 0, _ | 1, _ | 2, _ | 3, _ | 4, _ => rfl
  | n + 5, h => absurd h (by omega)
theorem arr_ext {n : Nat} {x y : Arr n Int} (h : x.l = y.l) : x = y := by
  cases x; cases y; simp only at h; subst h; rfl
theorem carry_up (k : Nat) (hk : k < 15625) : ∀ i, i < 6 → (∀ j, i < j → j < 6 → dg k j = 4) → dg k i ≠ 4 → upd (carry k i) i (dg k i + 1) = dgs (k + 1)
  | 0, _, hj, hi => by
    have h1 := hj 1 (by decide) (by decide); have h2 := hj 2 (by decide) (by decide); have h3 := hj 3 (by decide) (by decide); have h4 := hj 4 (by decide) (by decide); have h5 := hj 5 (by decide) (by decide)
    refine arr_ext ?_
    simp only [upd, carry, dgs, dg, List.set_cons_zero, List.set_cons_succ] at *
    simp only [List.cons.injEq, and_true]
    omega
  | 1, _, hj, hi => by
    have h2 := hj 2 (by decide) (by decide); have h3 := hj 3 (by decide) (by decide); have h4 := hj 4 (by decide) (by decide); have h5 := hj 5 (by decide) (by decide)
    refine arr_ext ?_
    simp only [upd, carry, dgs, dg, List.set_cons_zero, List.set_cons_succ] at *
    simp only [List.cons.injEq, and_true]
    omega
  | 2, _, hj, hi => by
    have h3 := hj 3 (by decide) (by decide); have h4 := hj 4 (by decide) (by decide); have h5 := hj 5 (by decide) (by decide)
    refine arr_ext ?_
    simp only [upd, carry, dgs, dg, List.set_cons_zero, List.set_cons_succ] at *
    simp only [List.cons.injEq, and_true]
    omega
  | 3, _, hj, hi => by
    have h4 := hj 4 (by decide) (by decide); have h5 := hj 5 (by decide) (by decide)
    refine arr_ext ?_
    simp only [upd, carry, dgs, dg, List.set_cons_zero, List.set_cons_succ] at *
    simp only [List.cons.injEq, and_true]
    omega
  | 4, _, hj, hi => by
    have h5 := hj 5 (by decide) (by decide)
    refine arr_ext ?_
    simp only [upd, carry, dgs, dg, List.set_cons_zero, List.set_cons_succ] at *
    simp only [List.cons.injEq, and_true]
    omega
  | 5, _, hj, hi => by
    refine arr_ext ?_
    simp only [upd, carry, dgs, dg, List.set_cons_zero, List.set_cons_succ] at *
    simp only [List.cons.injEq, and_true]
    omega
  | n + 6, h, _, _ => absurd h (by omega)
theorem dgs_fours (k : Nat) (hk : k < 15625) : (dgs k).l = fours.l ↔ k = 15624 := by
  simp only [dgs, dg, fours, List.cons.injEq, and_true]
  omega
theorem dg_fours (k : Nat) (hk : k < 15625) (h : ∀ j, j < 6 → dg k j = 4) : k = 15624 := by
  have h0 := h 0 (by decide); have h1 := h 1 (by decide); have h2 := h 2 (by decide); have h3 := h 3 (by decide); have h4 := h 4 (by decide); have h5 := h 5 (by decide)
  simp only [dg] at *
  omega
end Go.Proofs.Ytkjkbpgdpnapfaa

/-
  EQUALITY OF ARRAYS AND OF GIVEN MARKS, AS THE PROGRAM TELLS IT; by contract: SameMarks (under way).
-/
namespace Go.Proofs.Ytkjkbpgdpnapfaa
open Go Go.Abs
open Go.Abs.Enc (enc)
theorem eqE_int (a b : Int) : eqE (.i .i64) (enc a) (enc b) = some (a == b) := by simp [e_int, eqE]
theorem foldr_ints : ∀ (x y : List Int), x.length = y.length → ((x.map (enc (α := Int))).zip (y.map (enc (α := Int)))).foldr (fun p acc => andO (eqE (.i .i64) p.1 p.2) acc) (some true) = some (decide (x = y))
  | [], [], _ => by simp
  | a :: x, b :: y, h => by
    have ih := foldr_ints x y (by simpa using h)
    rw [List.map_cons, List.map_cons, List.zip_cons_cons, List.foldr_cons, ih, eqE_int]
    by_cases hab : a = b <;> by_cases hxy : x = y <;> simp [andO, hab, hxy]
theorem eqE_arr {n : Nat} (x y : Arr n Int) : eqE (.ar n (.i .i64)) (enc x) (enc y) = some (decide (x.l = y.l)) := by
  change eqE (.ar n (.i .i64)) (.agg (x.l.map enc)) (.agg (y.l.map enc)) = _
  rw [eqE, if_pos ⟨by simp [x.h], by simp [y.h]⟩]
  exact foldr_ints x.l y.l (by rw [x.h, y.h])
end Go.Proofs.Ytkjkbpgdpnapfaa

/-
  FUNCTIONS OF mark BY CONTRACT: the iterator marks, its walk.
-/
namespace Go.Proofs.Ytkjkbpgdpnapfaa
open Go Go.Abs
open Go.Abs.Enc (enc)
theorem own23 {a b : AO} : ∀ m, isIn [(2, a), (3, b)] m = true → m < 1000000 := fun m h => by
  simp only [isIn, lookO] at h
  split at h
  · omega
  · split at h
    · omega
    · simp at h
theorem heldG {os os2 ow : List (Nat × AO)} {ts : List (Nat × AV)} (h : GoodO os os2) (how : ∀ m, isIn ow m = true → m < 1000000) : ∀ n x, lookO os2 n = some x → (mkA ts (ow ++ os2)).o n = some x ∧ x.only (isIn os2) = true ∧ x.fix = true := fun n x hx => by
  have hn : isIn os2 n = true := by simp [isIn, hx]
  have hg := h.great n (by rw [← h.same]; exact hn)
  refine ⟨?_, h.ok n x hx⟩
  simp only [mkA, lookO_app]
  cases hw : lookO ow n with
  | none => exact hx
  | some y => have := how n (by simp [isIn, hw]); omega
theorem F121 : Iter Try.prog 121 [] 15625 (fun k => [enc (dgs k)]) := by
  intro Y v I Ix os hv hY hI hIx h0
  have hG := hI 0 os h0
  refine CtrY.mk' Try.func121 ca121 cc121 cr121 (Nat.le_of_ble_eq_true rfl) (Nat.le_of_ble_eq_true rfl) hG.great (fun hwf W0 D0 E1 => ?_)
  simp only [c121, r121, idx, Nat.zero_add, Nat.reduceAdd]
  have n2 := hG.none (n := 2) (by decide)
  have n3 := hG.none (n := 3) (by decide)
  refine AW.seq (AW.reg cd121_0 fun K hK => ?_)
  simp only [g121_0, bR, Nat.reduceEqDiff, reduceIte, Int.reduceBNe, Int.reduceBEq]
  simp only [n2, n3, e_zero6, bR, Nat.reduceEqDiff, reduceIte, Int.reduceBNe, Int.reduceBEq]
  refine .done (hK _ ?_); clear hK K; simp only [thenQ, blockQ]
  refine AW.seq ?_
  refine AW.seq (AW.reg cd121_1 fun K hK => ?_)
  simp only [g121_1, bR, Nat.reduceEqDiff, reduceIte, Int.reduceBNe, Int.reduceBEq]
  refine .done (hK _ ?_); clear hK K; simp only [thenQ, blockQ]
  refine AW.block (AW.loop (fun i : Nat => mkA [(0, .raw v), (2, .ptr 2 []), (3, .ptr 3 []), (6, .int .i64 i)] ((2, .box (enc zero6)) :: (3, .box (enc (upto i))) :: os)) (fun i => i ≤ 6) (fun i => 6 - i) 0 (by omega) ?_ (fun i hi => ?_))
  · refine Sub.slots ?_ (fun n => ?_)
    · simp [subT, look_cons]
    · simp only [lookO_cons, upto]; (repeat' split) <;> simp_all
  refine AW.seq (AW.reg cd121_2 fun K hK => ?_)
  simp only [g121_2, bR, Nat.reduceEqDiff, reduceIte, Int.reduceBNe, Int.reduceBEq]
  refine .done (hK _ ?_); clear hK K; simp only [thenQ, blockQ]
  refine AW.seq ?_
  refine AW.ite ?_
  simp only [condQ, bR, Nat.reduceEqDiff, reduceIte, Int.reduceBNe, Int.reduceBEq]
  refine ⟨fun h => ?_, fun h => ?_⟩
  · have hlt : i < 6 := by simp at h; omega
    refine AW.skip ?_; simp only [thenQ, blockQ, reduceIte, Nat.reduceEqDiff]
    refine AW.seq (AW.block ?_)
    refine AW.seq (AW.reg cd121_3 fun K hK => ?_)
    simp only [g121_3, bR, Nat.reduceEqDiff, reduceIte, Int.reduceBNe, Int.reduceBEq]
    refine .done (hK _ ?_); clear hK K; simp only [thenQ, blockQ]
    refine AW.reg cd121_4 fun K hK => ?_
    simp only [g121_4, bR, Nat.reduceEqDiff, reduceIte, Int.reduceBNe, Int.reduceBEq]
    simp only [typR, useR, okR, inB_int 1 (upto i) (show (0 : Int) ≤ i ∧ (i : Int) < (6 : Nat) by omega) rfl, atL_g (upto i) hlt, stR3_g (upto i) hlt, bR, Nat.reduceEqDiff, reduceIte, Int.reduceBNe, Int.reduceBEq]
    refine .done (hK _ ?_); clear hK K; simp only [thenQ, blockQ]
    refine AW.reg cd121_5 fun K hK => ?_
    simp only [g121_5, bR, Nat.reduceEqDiff, reduceIte, Int.reduceBNe, Int.reduceBEq]
    refine .done (hK _ ?_); clear hK K; simp only [thenQ, blockQ]
    refine ⟨i + 1, by omega, by omega, ?_⟩
    rw [wrap_id _ (by omega) (by omega)]
    refine Sub.slots ?_ (fun n => ?_)
    · simp [subT, look_cons]
    · simp only [lookO_cons, upto]; (repeat' split) <;> simp_all
  have h6 : i = 6 := by simp at h; omega
  subst h6
  rw [upto6]
  refine AW.exit ?_; simp only [thenQ, blockQ, reduceIte, Nat.reduceEqDiff]
  -- the marks, one after the other
  refine AW.block (AW.loop (fun s : Nat × List (Nat × AO) => mkA [(0, .raw v), (2, .ptr 2 []), (3, .ptr 3 [])] ((2, .box (enc (dgs s.1))) :: (3, .box (enc fours)) :: s.2)) (fun s => s.1 < 15625 ∧ I s.1 s.2) (fun s => 15625 - s.1) (0, os) ⟨by simp only; omega, h0⟩ ?_ ?_)
  · simp only [dgs0]
    refine Sub.slots ?_ (fun n => rfl)
    simp [subT, look_cons]
  rintro ⟨k, osk⟩ ⟨hk, hIk⟩
  simp only at hk hIk ⊢
  have gk := hI k osk hIk
  refine AW.seq (AW.seq ?_)
  refine AW.reg cd121_6 fun K hK => ?_
  simp only [g121_6, bR, Nat.reduceEqDiff, reduceIte, Int.reduceBNe, Int.reduceBEq]
  simp only [typR, useR, okR, callvR_raw, bR, Nat.reduceEqDiff, reduceIte, Int.reduceBNe, Int.reduceBEq]
  refine WP.yields (ow := [(2, _), (3, _)]) (In := I (k + 1)) (Ix := Ix) (hY k osk _ hk hIk (fun r os2 h => h)) gk (hI _) hIx (by simp [AV.closeds, e_closed]) own23 (fun os2 h2 => ?_) (fun os2 h2 => ?_)
  · have g2 := hI _ os2 h2
    simp only [List.cons_append, List.nil_append]
    simp only [typR, useR, okR, eqE_arr, bR, Nat.reduceEqDiff, reduceIte, Int.reduceBNe, Int.reduceBEq]
    refine .done (hK _ ?_); clear hK K; simp only [thenQ, blockQ]
    refine AW.ite ?_
    simp only [condQ, bR, Nat.reduceEqDiff, reduceIte, Int.reduceBNe, Int.reduceBEq]
    refine ⟨fun h => ?_, fun h => ?_⟩
    · have hne : k ≠ 15624 := fun e => by simp [(dgs_fours k hk).2 e] at h
      refine AW.skip ?_; simp only [thenQ, blockQ, reduceIte, Nat.reduceEqDiff]
      refine AW.block ?_
      refine AW.seq (AW.reg cd121_7 fun K hK => ?_)
      simp only [g121_7, bR, Nat.reduceEqDiff, reduceIte, Int.reduceBNe, Int.reduceBEq]
      refine .done (hK _ ?_); clear hK K; simp only [thenQ, blockQ]
      refine AW.seq (AW.block (AW.loop (fun i : Nat => mkA [(0, .raw v), (2, .ptr 2 []), (3, .ptr 3 []), (5, .int .i64 i)] ((2, .box (enc (carry k i))) :: (3, .box (enc fours)) :: os2)) (fun i => i < 6 ∧ ∀ j, i < j → j < 6 → dg k j = 4) (fun i => i) 5 ⟨by decide, fun j h1 h2 => by omega⟩ ?_ ?_))
      · refine Sub.slots ?_ (fun n => ?_)
        · simp [subT, look_cons]
        · simp only [lookO_cons]; (repeat' split) <;> simp_all [carry]
      rintro i ⟨hi, hj⟩
      refine AW.seq (AW.seq ?_)
      refine AW.reg cd121_8 fun K hK => ?_
      simp only [g121_8, bR, Nat.reduceEqDiff, reduceIte, Int.reduceBNe, Int.reduceBEq]
      simp only [typR, useR, okR, inB_int 1 (carry k i) (show (0 : Int) ≤ i ∧ (i : Int) < (6 : Nat) by omega) rfl, atL_g (carry k i) hi, carry_g k i hi, bR, Nat.reduceEqDiff, reduceIte, Int.reduceBNe, Int.reduceBEq]
      refine .done (hK _ ?_); clear hK K; simp only [thenQ, blockQ]
      refine AW.ite ?_
      simp only [condQ, bR, Nat.reduceEqDiff, reduceIte, Int.reduceBNe, Int.reduceBEq]
      refine ⟨fun h => ?_, fun h => ?_⟩
      · have h4 : dg k i = 4 := by simpa using h
        have hi0 : i ≠ 0 := fun e => by
          subst e
          exact hne (dg_fours k hk fun j hj6 => by
            rcases Nat.eq_zero_or_pos j with e | e
            · subst e; exact h4
            · exact hj j e hj6)
        obtain ⟨i', rfl⟩ : ∃ i', i = i' + 1 := ⟨i - 1, by omega⟩
        refine AW.skip ?_; simp only [thenQ, blockQ, reduceIte, Nat.reduceEqDiff]
        refine AW.block ?_
        refine AW.seq (AW.reg cd121_9 fun K hK => ?_)
        simp only [g121_9, bR, Nat.reduceEqDiff, reduceIte, Int.reduceBNe, Int.reduceBEq]
        simp only [typR, useR, okR, inB_int 1 (carry k (i' + 1)) (show (0 : Int) ≤ ((i' + 1 : Nat) : Int) ∧ ((i' + 1 : Nat) : Int) < (6 : Nat) by omega) rfl, atL_g (carry k (i' + 1)) hi, stR3_g (carry k (i' + 1)) hi, carry_down k i' hi, bR, Nat.reduceEqDiff, reduceIte, Int.reduceBNe, Int.reduceBEq]
        refine .done (hK _ ?_); clear hK K; simp only [thenQ, blockQ]
        refine AW.reg cd121_10 fun K hK => ?_
        simp only [g121_10, bR, Nat.reduceEqDiff, reduceIte, Int.reduceBNe, Int.reduceBEq]
        refine .done (hK _ ?_); clear hK K; simp only [thenQ, blockQ]
        refine ⟨i', ⟨by omega, fun j h1 h2 => ?_⟩, by omega, ?_⟩
        · rcases Nat.lt_or_ge (i' + 1) j with h5 | h5
          · exact hj j h5 h2
          · have : j = i' + 1 := by omega
            subst this; exact h4
        · rw [wrap_id _ (by omega) (by omega)]
          have e2 : (((i' + 1 : Nat) : Int) - 1) = (i' : Int) := by omega
          rw [e2]
          refine Sub.slots ?_ (fun n => ?_)
          · simp [subT, look_cons]
          · simp only [lookO_cons]; (repeat' split) <;> simp_all
      · have h4 : dg k i ≠ 4 := by simpa using h
        have hd := dg_in k i
        refine AW.exit ?_; simp only [thenQ, blockQ, reduceIte, Nat.reduceEqDiff]
        refine AW.reg cd121_11 fun K hK => ?_
        simp only [g121_11, bR, Nat.reduceEqDiff, reduceIte, Int.reduceBNe, Int.reduceBEq]
        simp only [typR, useR, okR, inB_int 1 (carry k i) (show (0 : Int) ≤ i ∧ (i : Int) < (6 : Nat) by omega) rfl, atL_g (carry k i) hi, carry_g k i hi, stR3_g (carry k i) hi, bR, Nat.reduceEqDiff, reduceIte, Int.reduceBNe, Int.reduceBEq]
        refine .done (hK _ ?_); clear hK K; simp only [thenQ, blockQ]
        refine ⟨(k + 1, os2), ⟨by simp only; omega, h2⟩, by simp only; omega, ?_⟩
        simp only
        rw [wrap_id _ (by omega) (by omega), carry_up k hk i hi hj h4]
        refine Sub.slots ?_ (fun n => ?_)
        · simp [subT, look_cons]
        · simp only [lookO_cons]; (repeat' split) <;> simp_all
    · have he : k = 15624 := by
        refine (dgs_fours k hk).1 ?_
        simpa using h
      subst he
      refine AW.exit ?_; simp only [thenQ, blockQ, reduceIte, Nat.reduceEqDiff]
      rw [retO_normal]
      exact ⟨os2, [], heldG (ow := [(2, _), (3, _)]) g2 own23, trivial, rfl, .inl h2⟩
  · have g2 := hIx os2 h2
    simp only [List.cons_append, List.nil_append]
    simp only [typR, useR, okR, bR, Nat.reduceEqDiff, reduceIte, Int.reduceBNe, Int.reduceBEq]
    refine .done (hK _ ?_); clear hK K; simp only [thenQ, blockQ]
    refine AW.ite ?_
    simp only [condQ, bR, Nat.reduceEqDiff, reduceIte, Int.reduceBNe, Int.reduceBEq]
    refine ⟨fun h => ?_, fun h => ?_⟩
    · cases h
    refine AW.exit ?_; simp only [thenQ, blockQ, reduceIte, Nat.reduceEqDiff]
    rw [retO_normal]
    exact ⟨os2, [], heldG (ow := [(2, _), (3, _)]) g2 own23, trivial, rfl, .inr h2⟩
theorem F101 : Ctr Try.prog 101 [] (.func 121 []) := by
  refine Ctr.mk' Try.func101 ca101 cc101 cr101 (Nat.le_of_ble_eq_true rfl) (fun hwf W0 D0 E1 => ?_)
  simp only [c101, r101, idx, Nat.zero_add, Nat.reduceAdd]
  refine AW.seq (AW.reg cd101_0 fun K hK => ?_)
  simp only [g101_0, bR, Nat.reduceEqDiff, reduceIte, Int.reduceBNe, Int.reduceBEq]
  refine .done (hK _ ?_); clear hK K; simp only [thenQ, blockQ]
  refine AW.seq (AW.reg cd101_1 fun K hK => ?_)
  simp only [g101_1, bR, Nat.reduceEqDiff, reduceIte, Int.reduceBNe, Int.reduceBEq]
  refine .done (hK _ ?_); clear hK K; simp only [thenQ, blockQ]
  refine AW.ret ?_
  simp only [blockQ, thenQ, bR, Nat.reduceEqDiff, reduceIte, Int.reduceBNe, Int.reduceBEq]
end Go.Proofs.Ytkjkbpgdpnapfaa

/-
  FUNCTIONS OF mark BY CONTRACT: Next.
-/
namespace Go.Proofs.Ytkjkbpgdpnapfaa
open Go Go.Abs
open Go.Abs.Enc (enc)
def blocked (m : Marks) (k : Arr 6 Int) : Bool := m.given.any fun g => tooNear m g.mark k
def nextK (m : Marks) : Option Nat := (List.range 15625).find? fun k => !blocked m (dgs k)
def nextOf (m : Marks) : Arr 6 Int × Int := if okM m then (if m.given.length = 40 then (zero6, 16) else match nextK m with
  | some k => (dgs k, 0)
  | none => (zero6, 16)) else (zero6, 13)
theorem find_range (p : Nat → Bool) {n k : Nat} (hk : k < n) (h1 : p k = true) (h2 : ∀ j, j < k → p j = false) : (List.range n).find? p = some k := by
  rw [List.find?_range_eq_some]
  exact ⟨h1, by simpa using hk, fun j hj => by simp [h2 j hj]⟩
theorem find_range_none (p : Nat → Bool) {n : Nat} (h : ∀ k, k < n → p k = false) : (List.range n).find? p = none := by
  rw [List.find?_eq_none]
  intro k hk
  simp [h k (by simpa using hk)]
theorem okMark_dgs (k : Nat) : okMark (dgs k) = true := by
  simp only [okMark, List.all_eq_true, List.mem_range]
  intro i hi
  have : (dgs k).g i = dg k i := by
    match i, hi with
    | 0, _ | 1, _ | 2, _ | 3, _ | 4, _ | 5, _ => rfl
    | n + 6, h => exact absurd h (by omega)
  rw [this]
  have := dg_in k i
  simp [inR, this.1, this.2]
def nx (m : Marks) (r : Arr 6 Int) (e : Int) : List (Nat × AO) := [(1000001, .box (enc m)), (1000002, .box (enc r)), (1000003, .box (.int .i64 e))]
theorem nx_good (m : Marks) (r : Arr 6 Int) (e : Int) (m' : Marks) (r' : Arr 6 Int) (e' : Int) : GoodO (nx m r e) (nx m' r' e') := by
  refine ⟨fun n => by simp only [nx, isIn, lookO]; (repeat' split) <;> rfl, fun n x h => ?_, fun n h => ?_⟩
  · simp only [nx, lookO] at h
    repeat' split at h
    all_goals first | (cases h; done) | (simp only [Option.some.injEq] at h; subst h; exact ⟨by simp [AO.only, e_only, AV.only], rfl⟩)
  · simp only [nx, isIn, lookO] at h
    repeat' split at h
    all_goals first | omega | (simp at h; done)
theorem stR3_i {A : AState} {n : Nat} {b : AV} {v u : Int} {rest : List G} : stR3 A none n [] b (.int .i64 v) rest (some (.int .i64 u)) = aops rest (A.setO n (.box (.int .i64 v))) := by
  rw [stR3_ok (s := none) (v := .int .i64 v) (old := .int .i64 u) rfl rfl rfl, setAt_nil]
theorem stR3_6 {A : AState} {n : Nat} {b : AV} {v u : Arr 6 Int} {rest : List G} : stR3 A (some 6) n [] b (enc v) rest (some (enc u)) = aops rest (A.setO n (.box (enc v))) := by
  rw [stR3_ok (e_isVal _) (by rw [e_okS]; rfl) ((e_sh _).trans (e_sh _).symm), setAt_nil]
theorem stR3_G {A : AState} {n : Nat} {b : AV} {v u : Given} {rest : List G} : stR3 A (some 7) n [] b (enc v) rest (some (enc u)) = aops rest (A.setO n (.box (enc v))) := by
  rw [stR3_ok (e_isVal _) (by rw [e_okS]; rfl) ((e_sh _).trans (e_sh _).symm), setAt_nil]
theorem blocked_at {m : Marks} {k : Arr 6 Int} {i : Nat} (hi : i < m.given.length) (h : tooNear m (gv m i).mark k = true) : blocked m k = true := by
  simp only [blocked, List.any_eq_true]
  exact ⟨m.given[i], List.getElem_mem hi, by rw [gv_eq hi]; exact h⟩
theorem blocked_no {m : Marks} {k : Arr 6 Int} (h : ∀ i, i < m.given.length → tooNear m (gv m i).mark k = false) : blocked m k = false := by
  rw [blocked, List.any_eq_false]
  intro g hg
  obtain ⟨i, hi, rfl⟩ := List.getElem_of_mem hg
  rw [gv_eq hi, h i hi]; simp
theorem F55 (m : Marks) : Ctr Try.prog 55 [enc m] (.tuple [enc (nextOf m).1, enc (nextOf m).2]) := by
  refine Ctr.mk' Try.func55 ca55 cc55 cr55 (Nat.le_of_ble_eq_true rfl) (fun hwf W0 D0 E1 => ?_)
  simp only [c55, r55, idx, Nat.zero_add, Nat.reduceAdd]
  refine AW.seq (AW.reg cd55_0 fun K hK => ?_)
  simp only [g55_0, bR, Nat.reduceEqDiff, reduceIte, Int.reduceBNe, Int.reduceBEq]
  simp only [e_zero6, bR, Nat.reduceEqDiff, reduceIte, Int.reduceBNe, Int.reduceBEq]
  refine .done (hK _ ?_); clear hK K; simp only [thenQ, blockQ]
  refine AW.scope ?_
  refine AW.seq ?_
  refine AW.seq (AW.reg cd55_1 fun K hK => ?_)
  simp only [g55_1, bR, Nat.reduceEqDiff, reduceIte, Int.reduceBNe, Int.reduceBEq]
  simp only [typR, useR, okR, e_fin, bR, Nat.reduceEqDiff, reduceIte, Int.reduceBNe, Int.reduceBEq]
  refine .flat _ (F47 m) rfl ?_
  generalize hm : okM m = bm
  cases bm
  · try simp only [typR, useR, okR, e_fin, bR, Nat.reduceEqDiff, reduceIte, Int.reduceBNe, Int.reduceBEq]
    refine .done (hK _ ?_); clear hK K; simp only [thenQ, blockQ]
    refine AW.seq (AW.reg cd55_2 fun K hK => ?_)
    simp only [g55_2, bR, Nat.reduceEqDiff, reduceIte, Int.reduceBNe, Int.reduceBEq]
    refine .done (hK _ ?_); clear hK K; simp only [thenQ, blockQ]
    refine AW.ite ?_
    simp only [condQ, bR, Nat.reduceEqDiff, reduceIte, Int.reduceBNe, Int.reduceBEq]
    refine ⟨fun h => ?_, fun h => ?_⟩
    · refine AW.seq (AW.reg cd55_3 fun K hK => ?_)
      simp only [g55_3, bR, Nat.reduceEqDiff, reduceIte, Int.reduceBNe, Int.reduceBEq]
      simp only [setParts, e_zero6, bR, Nat.reduceEqDiff, reduceIte, Int.reduceBNe, Int.reduceBEq]
      simp only [stR3_6, stR3_i, bR, Nat.reduceEqDiff, reduceIte, Int.reduceBNe, Int.reduceBEq]
      refine .done (hK _ ?_); clear hK K; simp only [thenQ, blockQ]
      refine AW.ret ?_
      simp only [scopeQ, thenQ, blockQ, typR, e_fin, setAt_nil, e_int, bR, Nat.reduceEqDiff, reduceIte, Int.reduceBNe, Int.reduceBEq]
      simp [nextOf, hm, e_int]
    · cases h
  try simp only [typR, useR, okR, e_fin, bR, Nat.reduceEqDiff, reduceIte, Int.reduceBNe, Int.reduceBEq]
  refine .done (hK _ ?_); clear hK K; simp only [thenQ, blockQ]
  refine AW.seq (AW.reg cd55_2 fun K hK => ?_)
  simp only [g55_2, bR, Nat.reduceEqDiff, reduceIte, Int.reduceBNe, Int.reduceBEq]
  refine .done (hK _ ?_); clear hK K; simp only [thenQ, blockQ]
  refine AW.ite ?_
  simp only [condQ, bR, Nat.reduceEqDiff, reduceIte, Int.reduceBNe, Int.reduceBEq]
  refine ⟨fun h => ?_, fun h => ?_⟩
  · cases h
  refine AW.skip ?_; simp only [thenQ, blockQ, reduceIte, Nat.reduceEqDiff]
  refine AW.seq ?_
  refine AW.seq (AW.reg cd55_4 fun K hK => ?_)
  simp only [g55_4, bR, Nat.reduceEqDiff, reduceIte, Int.reduceBNe, Int.reduceBEq]
  try simp only [typR, useR, okR, e_fin, bR, Nat.reduceEqDiff, reduceIte, Int.reduceBNe, Int.reduceBEq]
  refine .done (hK _ ?_); clear hK K; simp only [thenQ, blockQ]
  refine AW.ite ?_
  simp only [condQ, bR, Nat.reduceEqDiff, reduceIte, Int.reduceBNe, Int.reduceBEq]
  refine ⟨fun h => ?_, fun h => ?_⟩
  · have h40 : m.given.length = 40 := by simp at h; omega
    refine AW.seq (AW.reg cd55_5 fun K hK => ?_)
    simp only [g55_5, bR, Nat.reduceEqDiff, reduceIte, Int.reduceBNe, Int.reduceBEq]
    simp only [setParts, e_zero6, bR, Nat.reduceEqDiff, reduceIte, Int.reduceBNe, Int.reduceBEq]
    simp only [stR3_6, stR3_i, bR, Nat.reduceEqDiff, reduceIte, Int.reduceBNe, Int.reduceBEq]
    refine .done (hK _ ?_); clear hK K; simp only [thenQ, blockQ]
    refine AW.ret ?_
    simp only [scopeQ, thenQ, blockQ, typR, e_fin, setAt_nil, e_int, bR, Nat.reduceEqDiff, reduceIte, Int.reduceBNe, Int.reduceBEq]
    simp [nextOf, hm, h40, e_int]
  have h40 : m.given.length ≠ 40 := by simp at h; omega
  have hlen := okM_len hm
  refine AW.skip ?_; simp only [thenQ, blockQ, reduceIte, Nat.reduceEqDiff]
  refine AW.seq (AW.label ?_)
  simp only [thenQ, blockQ]
  refine AW.seq ?_
  refine AW.seq (AW.reg cd55_6 fun K hK => ?_)
  simp only [g55_6, bR, Nat.reduceEqDiff, reduceIte, Int.reduceBNe, Int.reduceBEq]
  try simp only [typR, useR, okR, e_fin, bR, Nat.reduceEqDiff, reduceIte, Int.reduceBNe, Int.reduceBEq]
  refine .lead _ F101 ?_
  simp only [bR, Nat.reduceEqDiff, reduceIte, Int.reduceBNe, Int.reduceBEq]
  refine .done (hK _ ?_); clear hK K; simp only [thenQ, blockQ]
  refine AW.block (AW.rfun (osb0 := nx m zero6 0) (tsR := [(1, .ptr 1000001 []), (2, .ptr 1000002 []), (3, .ptr 1000003 [])]) (ρ := [(1999999, 999999), (1000001, 1), (1000002, 2), (1000003, 3)])
    (fun k os => os = nx m zero6 0 ∧ ∀ j, j < k → blocked m (dgs j) = true)
    (fun e os => e = none ∧ ∃ k, k < 15625 ∧ os = nx m (dgs k) 0 ∧ blocked m (dgs k) = false ∧ ∀ j, j < k → blocked m (dgs j) = true)
    rfl (Nat.le_of_ble_eq_true rfl) ?_ rfl ca121 F121 (fun _ => rfl) ?_ ?_ rfl (fun o => ⟨?_, ?_⟩) ?_ ?_ ?_ ⟨rfl, fun j h => by omega⟩ ?_ ?_ ?_)
  · simp only [bR, Nat.reduceEqDiff, reduceIte, Int.reduceBNe, Int.reduceBEq]
  · simp [lookO]
  · simp [nx, isIn, lookO]
  · intro n x hx
    simp only [recd, nx, lookO] at hx
    repeat' split at hx
    all_goals first | (cases hx; done) | (subst_vars; simp only [Option.some.injEq] at hx; subst hx; simp [recd, nx, rnm, lookO, AO.ren, AV.ren, e_ren, AO.only, AV.only, e_only, AO.fix, e_int])
  · intro a b ha hb
    simp only [recd, nx, isIn, lookO] at ha hb
    repeat' split at ha
    all_goals first | (simp at ha; done) | skip
    all_goals (repeat' split at hb)
    all_goals first | (simp at hb; done) | (subst_vars; simp [rnm])
  · simp [slotsOk, look_cons, AV.ren, rnm, AV.only, nx, isIn, lookO]
  · rintro k os ⟨rfl, _⟩; exact nx_good ..
  · rintro e os ⟨_, k, _, rfl, _⟩; exact nx_good ..
  · rintro k osb hk ⟨rfl, hall⟩ W1 D1 E1 l o1 o2
    simp only [putsT, recd, nx]
    refine AW.reg cd55_7 fun K hK => ?_
    simp only [g55_7, bR, Nat.reduceEqDiff, reduceIte, Int.reduceBNe, Int.reduceBEq]
    simp only [e_zero6, stR3_6, bR, Nat.reduceEqDiff, reduceIte, Int.reduceBNe, Int.reduceBEq]
    refine .done (hK _ ?_); clear hK K; simp only [thenQ, blockQ]
    refine ⟨by simp [mkA, lookO], ?_⟩
    simp only [bR, Nat.reduceEqDiff, reduceIte, Int.reduceBNe, Int.reduceBEq]
    refine AW.block (AW.seq ?_)
    refine AW.seq (AW.reg cd55_8 fun K hK => ?_)
    simp only [g55_8, bR, Nat.reduceEqDiff, reduceIte, Int.reduceBNe, Int.reduceBEq]
    try simp only [typR, useR, okR, e_fin, bR, Nat.reduceEqDiff, reduceIte, Int.reduceBNe, Int.reduceBEq]
    refine .done (hK _ ?_); clear hK K; simp only [thenQ, blockQ]
    refine AW.block (AW.loop (fun i : Nat => mkA [(1, .ptr 1000001 []), (2, .ptr 1000002 []), (3, .ptr 1000003 []), (5, .ptr 5 []), (22, enc m.given), (23, .int .i64 m.given.length), (24, .int .i64 i)]
      [(1999999, .opq o2), (5, .box (enc (dgs k))), (1000001, .box (enc m)), (1000002, .box (enc zero6)), (1000003, .box (.int .i64 0))]) (fun i => i ≤ m.given.length ∧ ∀ j, j < i → tooNear m (gv m j).mark (dgs k) = false) (fun i => m.given.length - i) 0 ⟨by omega, fun j h => by omega⟩ ?_ ?_)
    · refine Sub.of_lists ?_ ?_ ?_ ?_ <;> simp [subT, subO, onlyT, onlyO, isIn, look_cons, lookO_cons, lookO_nil, AV.only, AV.onlys, AO.only, onlys_map, onlys_append, e_only, e_int, e_bool]
    rintro i ⟨hi, hj⟩
    refine AW.seq (AW.reg cd55_9 fun K hK => ?_)
    simp only [g55_9, bR, Nat.reduceEqDiff, reduceIte, Int.reduceBNe, Int.reduceBEq]
    refine .done (hK _ ?_); clear hK K; simp only [thenQ, blockQ]
    refine AW.seq ?_
    refine AW.ite ?_
    simp only [condQ, bR, Nat.reduceEqDiff, reduceIte, Int.reduceBNe, Int.reduceBEq]
    refine ⟨fun h => ?_, fun h => ?_⟩
    · have hlt : i < m.given.length := by simp at h; omega
      refine AW.skip ?_; simp only [thenQ, blockQ, reduceIte, Nat.reduceEqDiff]
      refine AW.seq (AW.block ?_)
      refine AW.seq (AW.reg cd55_10 fun K hK => ?_)
      simp only [g55_10, bR, Nat.reduceEqDiff, reduceIte, Int.reduceBNe, Int.reduceBEq]
      try simp only [typR, useR, okR, e_fin, bR, Nat.reduceEqDiff, reduceIte, Int.reduceBNe, Int.reduceBEq]
      simp only [isE_gv hlt, bR, Nat.reduceEqDiff, reduceIte, Int.reduceBNe, Int.reduceBEq]
      try simp only [typR, useR, okR, e_fin, bR, Nat.reduceEqDiff, reduceIte, Int.reduceBNe, Int.reduceBEq]
      simp only [e_g0, stR3_G, bR, Nat.reduceEqDiff, reduceIte, Int.reduceBNe, Int.reduceBEq]
      refine .done (hK _ ?_); clear hK K; simp only [thenQ, blockQ]
      refine AW.seq ?_
      refine AW.reg cd55_11 fun K hK => ?_
      simp only [g55_11, bR, Nat.reduceEqDiff, reduceIte, Int.reduceBNe, Int.reduceBEq]
      try simp only [typR, useR, okR, e_fin, bR, Nat.reduceEqDiff, reduceIte, Int.reduceBNe, Int.reduceBEq]
      refine .flat _ (F87 m.wear (gv m i).mark (dgs k) (by rw [← gv_eq hlt]; exact okM_mark hm _ (List.getElem_mem hlt)) (okMark_dgs k)) rfl ?_
      try simp only [typR, useR, okR, e_fin, bR, Nat.reduceEqDiff, reduceIte, Int.reduceBNe, Int.reduceBEq]
      refine .done (hK _ ?_); clear hK K; simp only [thenQ, blockQ]
      have hdec : decide ((cnt (apartAt m.wear (gv m i).mark (dgs k)) 6 : Int) ≤ IntKind.i64.wrap (2 * m.fls)) = tooNear m (gv m i).mark (dgs k) := rfl
      refine AW.ite ?_
      simp only [condQ, bR, Nat.reduceEqDiff, reduceIte, Int.reduceBNe, Int.reduceBEq]
      refine ⟨fun h => ?_, fun h => ?_⟩
      · rw [hdec] at h
        refine AW.exit ?_; simp only [thenQ, blockQ, reduceIte, Nat.reduceEqDiff]
        refine ⟨nx m zero6 0, ?_, rfl, fun j hj1 => ?_⟩
        · intro n x hx
          simp only [recd, nx, lookO] at hx
          (repeat' split at hx) <;> first
            | (cases hx; done)
            | (subst_vars; simp only [Option.some.injEq] at hx; subst hx; simp [nx, recd, mkA, lookO, AO.only, AV.only, e_only, AO.fix])
        · rcases Nat.lt_or_ge j k with hlt' | hge
          · exact hall j hlt'
          · have : j = k := by omega
            subst this
            exact blocked_at hlt h
      · rw [hdec] at h
        refine AW.skip ?_; simp only [thenQ, blockQ, reduceIte, Nat.reduceEqDiff]
        refine AW.reg cd55_12 fun K hK => ?_
        simp only [g55_12, bR, Nat.reduceEqDiff, reduceIte, Int.reduceBNe, Int.reduceBEq]
        refine .done (hK _ ?_); clear hK K; simp only [thenQ, blockQ]
        refine ⟨i + 1, ⟨by omega, fun j hj1 => ?_⟩, by omega, ?_⟩
        · rcases Nat.lt_or_ge j i with hlt' | hge
          · exact hj j hlt'
          · have : j = i := by omega
            subst this; exact h
        · rw [wrap_id _ (by omega) (by omega)]
          refine Sub.of_lists ?_ ?_ ?_ ?_ <;> simp [subT, subO, onlyT, onlyO, isIn, look_cons, lookO_cons, lookO_nil, AV.only, AV.onlys, AO.only, onlys_map, onlys_append, e_only, e_int, e_bool]
    · have he : i = m.given.length := by simp at h; omega
      subst he
      refine AW.exit ?_; simp only [thenQ, blockQ, reduceIte, Nat.reduceEqDiff]
      refine AW.seq (AW.reg cd55_13 fun K hK => ?_)
      simp only [g55_13, bR, Nat.reduceEqDiff, reduceIte, Int.reduceBNe, Int.reduceBEq]
      simp only [stR3_6, stR3_i, typR, useR, okR, bR, Nat.reduceEqDiff, reduceIte, Int.reduceBNe, Int.reduceBEq]
      refine .done (hK _ ?_); clear hK K; simp only [thenQ, blockQ]
      refine AW.ret ?_
      simp only [thenQ, blockQ]
      refine ⟨nx m (dgs k) 0, ?_, rfl, k, hk, rfl, blocked_no hj, hall⟩
      intro n x hx
      simp only [recd, nx, lookO] at hx
      (repeat' split at hx) <;> first
        | (cases hx; done)
        | (subst_vars; simp only [Option.some.injEq] at hx; subst hx; simp [nx, recd, mkA, lookO, AO.only, AV.only, e_only, AO.fix])
  · rintro os ⟨rfl, hall⟩
    simp only [blockQ, thenQ, nx, renR, e_ren, List.cons_append, List.nil_append, bR, Nat.reduceEqDiff, reduceIte, Int.reduceBNe, Int.reduceBEq]
    refine AW.seq (AW.reg cd55_14 fun K hK => ?_)
    simp only [g55_14, bR, Nat.reduceEqDiff, reduceIte, Int.reduceBNe, Int.reduceBEq]
    simp only [setParts, e_zero6, stR3_6, stR3_i, bR, Nat.reduceEqDiff, reduceIte, Int.reduceBNe, Int.reduceBEq]
    refine .done (hK _ ?_); clear hK K; simp only [thenQ, blockQ]
    refine AW.ret ?_
    simp only [scopeQ, thenQ, blockQ, typR, e_fin, setAt_nil, e_int, bR, Nat.reduceEqDiff, reduceIte, Int.reduceBNe, Int.reduceBEq]
    have hn : nextK m = none := find_range_none _ fun k hk => by simp [hall k hk]
    simp [nextOf, hm, h40, hn, e_int]
  · rintro e os ⟨rfl, k, hk, rfl, hb, hall⟩
    simp only [exitOf, blockQ, thenQ, scopeQ, nx, renR, e_ren, List.cons_append, List.nil_append, typR, e_fin, bR, Nat.reduceEqDiff, reduceIte, Int.reduceBNe, Int.reduceBEq]
    have hn : nextK m = some k := find_range _ hk (by simp [hb]) fun j hj => by simp [hall j hj]
    simp [nextOf, hm, h40, hn, e_int]
end Go.Proofs.Ytkjkbpgdpnapfaa

/-
  FUNCTIONS BY CONTRACT: of mark: settles; of the law: its book.
-/
namespace Go.Proofs.Ytkjkbpgdpnapfaa
open Go Go.Abs
open Go.Abs.Enc (enc)
def a6 (a b c d e f : Int) : Arr 6 Int := ⟨[a, b, c, d, e, f], rfl⟩
def a5 (a b c d e : Int) : Arr 5 Int := ⟨[a, b, c, d, e], rfl⟩
def bookM : Marks := ⟨a5 1 3 4 24 24, 0, [⟨1, a6 0 0 0 0 0 0⟩, ⟨2, a6 2 0 0 0 0 0⟩, ⟨3, a6 3 0 0 0 0 2⟩]⟩
theorem F107 (w : Arr 5 Int) (g h : Given) (k : Nat) (hk : k < 6) (hg : okMark g.mark = true) (hh : okMark h.mark = true) : Ctr Try.prog 107 (enc (k : Int) :: [.ref (enc w), .ref (enc g), .ref (enc h)]) (enc (apartAt w g.mark h.mark k)) := by
  refine Ctr.mk' Try.func107 ca107 cc107 cr107 (Nat.le_of_ble_eq_true rfl) (fun hwf W0 D0 E1 => ?_)
  simp only [c107, r107, idx, Nat.zero_add, Nat.reduceAdd]
  have h1 := okMark_at hg hk
  have h2 := okMark_at hh hk
  refine AW.seq (AW.reg cd107_0 fun K hK => ?_)
  simp only [g107_0, bR, Nat.reduceEqDiff, reduceIte, Int.reduceBNe, Int.reduceBEq]
  refine .done (hK _ ?_); clear hK K; simp only [thenQ, blockQ]
  refine AW.seq (AW.reg cd107_1 fun K hK => ?_)
  simp only [g107_1, bR, Nat.reduceEqDiff, reduceIte, Int.reduceBNe, Int.reduceBEq]
  try simp only [typR, useR, okR, e_fin, bR, Nat.reduceEqDiff, reduceIte, Int.reduceBNe, Int.reduceBEq]
  refine .flat _ (F77 w g.mark k hk h1.1 h1.2) rfl ?_
  try simp only [typR, useR, okR, e_fin, bR, Nat.reduceEqDiff, reduceIte, Int.reduceBNe, Int.reduceBEq]
  refine .flat _ (F77 w h.mark k hk h2.1 h2.2) rfl ?_
  try simp only [typR, useR, okR, e_fin, bR, Nat.reduceEqDiff, reduceIte, Int.reduceBNe, Int.reduceBEq]
  refine .flat _ (F78 _ _) rfl ?_
  try simp only [typR, useR, okR, e_fin, bR, Nat.reduceEqDiff, reduceIte, Int.reduceBNe, Int.reduceBEq]
  refine .done (hK _ ?_); clear hK K; simp only [thenQ, blockQ]
  refine AW.ret ?_
  simp only [blockQ, thenQ, bR, Nat.reduceEqDiff, reduceIte, Int.reduceBNe, Int.reduceBEq]
  simp only [apartAt, bne, Bool.not_not]
theorem bld5 (a b c d e : Int) : setParts [.int .i64 0, .int .i64 0, .int .i64 0, .int .i64 0, .int .i64 0] [(0, .int .i64 a), (1, .int .i64 b), (2, .int .i64 c), (3, .int .i64 d), (4, .int .i64 e)] = some [.int .i64 a, .int .i64 b, .int .i64 c, .int .i64 d, .int .i64 e] := rfl
theorem bld6 (a b c d e f : Int) : setParts [.int .i64 0, .int .i64 0, .int .i64 0, .int .i64 0, .int .i64 0, .int .i64 0] [(0, .int .i64 a), (1, .int .i64 b), (2, .int .i64 c), (3, .int .i64 d), (4, .int .i64 e), (5, .int .i64 f)] = some [.int .i64 a, .int .i64 b, .int .i64 c, .int .i64 d, .int .i64 e, .int .i64 f] := rfl
theorem e_a5 (a b c d e : Int) : AV.agg [.int .i64 a, .int .i64 b, .int .i64 c, .int .i64 d, .int .i64 e] = enc (a5 a b c d e) := rfl
theorem e_a6 (a b c d e f : Int) : AV.agg [.int .i64 a, .int .i64 b, .int .i64 c, .int .i64 d, .int .i64 e, .int .i64 f] = enc (a6 a b c d e f) := rfl
theorem bldG0 (o : Int) : setParts [.int .i64 0, enc (a6 0 0 0 0 0 0)] [(0, .int .i64 o)] = some [.int .i64 o, enc (a6 0 0 0 0 0 0)] := rfl
theorem setParts_cons {zs : List AV} {i : Nat} {v z : AV} {rest : List (Nat × AV)} (h : zs[i]? = some z) (h1 : v.isVal = true) (h2 : v.size = z.size) : setParts zs ((i, v) :: rest) = setParts (zs.set i v) rest := by
  simp only [setParts, h]; rw [if_pos ⟨h1, h2⟩]
theorem bldG (o : Int) (m : Arr 6 Int) : setParts [.int .i64 0, enc (a6 0 0 0 0 0 0)] [(0, .int .i64 o), (1, enc m)] = some [.int .i64 o, enc m] := by
  have h2 : ((enc m : AV).isVal = true ∧ (enc m : AV).size = (enc (a6 0 0 0 0 0 0)).size) := ⟨e_isVal _, by rw [e_size, e_size]⟩
  have h1 : ((AV.int .i64 o).isVal = true ∧ (AV.int .i64 o).size = (AV.int .i64 0).size) := ⟨rfl, rfl⟩
  rw [setParts_cons rfl h1.1 h1.2, setParts_cons rfl h2.1 h2.2]; rfl
theorem bldM (w : Arr 5 Int) (l : List Given) : setParts [enc (a5 0 0 0 0 0), .int .i64 0, .nils 7] [(0, enc w), (2, enc l)] = some [enc w, .int .i64 0, enc l] := by
  have h1 : ((enc w : AV).isVal = true ∧ (enc w : AV).size = (enc (a5 0 0 0 0 0)).size) := ⟨e_isVal _, by rw [e_size, e_size]⟩
  have h2 : ((enc l : AV).isVal = true ∧ (enc l : AV).size = (AV.nils 7).size) := ⟨e_isVal _, by rw [e_size]; rfl⟩
  rw [setParts_cons rfl h1.1 h1.2, setParts_cons rfl h2.1 h2.2]; rfl
theorem e_G (o : Int) (m : Arr 6 Int) : AV.agg [.int .i64 o, enc m] = enc (⟨o, m⟩ : Given) := rfl
theorem e_M (w : Arr 5 Int) (n : Int) (l : List Given) : AV.agg [enc w, .int .i64 n, enc l] = enc (⟨w, n, l⟩ : Marks) := rfl
theorem bsG3 (a b c : Given) : bsE 7 (some [enc a, enc b, enc c]) = some (enc [a, b, c]) := (bsE_enc (α := Given) 7 rfl : bsE 7 (some ([a, b, c].map enc)) = _)
theorem F82 : Ctr Try.prog 82 [] (enc bookM) := by
  refine Ctr.mk' Try.func82 ca82 cc82 cr82 (Nat.le_of_ble_eq_true rfl) (fun hwf W0 D0 E1 => ?_)
  simp only [c82, r82, idx, Nat.zero_add, Nat.reduceAdd]
  refine AW.seq (AW.reg cd82_0 fun K hK => ?_)
  simp only [g82_0, bR, Nat.reduceEqDiff, reduceIte, Int.reduceBNe, Int.reduceBEq]
  refine .done (hK _ ?_); clear hK K; simp only [thenQ, blockQ]
  refine AW.seq (AW.reg cd82_1 fun K hK => ?_)
  simp only [g82_1, bR, Nat.reduceEqDiff, reduceIte, Int.reduceBNe, Int.reduceBEq]
  simp only [bld5, bld6, bldG0, bldG, bldM, bsG3, e_a5, e_a6, e_G, e_M, e_fin, bR, Nat.reduceEqDiff, reduceIte, Int.reduceBNe, Int.reduceBEq]
  rw [stR3_ok (e_isVal _) (by rw [e_okS]; rfl) ((e_sh _).trans rfl)]
  simp only [setAt_nil, bR, Nat.reduceEqDiff, reduceIte, Int.reduceBNe, Int.reduceBEq]
  refine .done (hK _ ?_); clear hK K; simp only [thenQ, blockQ]
  refine AW.ret ?_
  simp only [blockQ, thenQ, bR, Nat.reduceEqDiff, reduceIte, Int.reduceBNe, Int.reduceBEq]
  simp only [typR, e_fin, bR, Nat.reduceEqDiff, reduceIte, Int.reduceBNe, Int.reduceBEq]
  rfl
end Go.Proofs.Ytkjkbpgdpnapfaa

/-
  FUNCTIONS OF mark BY CONTRACT: settles.
-/
namespace Go.Proofs.Ytkjkbpgdpnapfaa
open Go Go.Abs
open Go.Abs.Enc (enc)
def gl (l : List Given) (i : Nat) : Given := l.getD i g0
theorem isE_gl {A : AState} {l : List Given} {i : Nat} (h : i < l.length) : isE A 7 (i : Int) (enc l) = some (.ref (enc (gl l i))) := by
  rw [isE_nat 7 h rfl]; simp [gl, List.getD_eq_getElem?_getD, h]
theorem gl_eq {l : List Given} {i : Nat} (h : i < l.length) : l[i] = gl l i := by simp [gl, List.getD_eq_getElem?_getD, h]
theorem gl_take {l : List Given} {i j : Nat} (h : j < i) (hi : i ≤ l.length) : gl (l.take i) j = gl l j := by
  simp [gl, List.getD_eq_getElem?_getD, List.getElem?_take, h]
/-- At these places any two of the given marks stand apart. -/
def apartIn (w : Arr 5 Int) (places : List Int) (g h : Given) : Bool := places.any fun k => apartAt w g.mark h.mark k.toNat
def settledAt (w : Arr 5 Int) (l : List Given) (places : List Int) (i : Nat) : Bool := (List.range i).all fun j => apartIn w places (gl l i) (gl l j)
def settled (w : Arr 5 Int) (l : List Given) (places : List Int) : Bool := (List.range l.length).all (settledAt w l places)
theorem F67 (w : Arr 5 Int) (l : List Given) (places : List Int) (hl : ∀ g ∈ l, okMark g.mark = true) (hp : ∀ k ∈ places, 0 ≤ k ∧ k < 6) : Ctr Try.prog 67 [enc w, enc l, enc places] (enc (settled w l places)) := by
  refine Ctr.mk' Try.func67 ca67 cc67 cr67 (Nat.le_of_ble_eq_true rfl) (fun hwf W0 D0 E1 => ?_)
  simp only [c67, r67, idx, Nat.zero_add, Nat.reduceAdd]
  have hlen : l.length ≤ maxLen := ((wf_list l).1 hwf.2.1).1
  simp only [maxLen] at hlen
  have hok : ∀ i, i < l.length → okMark (gl l i).mark = true := fun i hi => by rw [← gl_eq hi]; exact hl _ (List.getElem_mem hi)
  refine AW.seq (AW.reg cd67_0 fun K hK => ?_)
  simp only [g67_0, bR, Nat.reduceEqDiff, reduceIte, Int.reduceBNe, Int.reduceBEq]
  refine .done (hK _ ?_); clear hK K; simp only [thenQ, blockQ]
  refine AW.seq ?_
  refine AW.seq (AW.reg cd67_1 fun K hK => ?_)
  simp only [g67_1, bR, Nat.reduceEqDiff, reduceIte, Int.reduceBNe, Int.reduceBEq]
  try simp only [typR, useR, okR, e_fin, bR, Nat.reduceEqDiff, reduceIte, Int.reduceBNe, Int.reduceBEq]
  refine .done (hK _ ?_); clear hK K; simp only [thenQ, blockQ]
  refine AW.block (AW.loop (fun i : Nat => mkA [(1, enc l), (2, enc places), (3, .ptr 3 []), (11, enc l), (12, .int .i64 l.length), (13, .int .i64 i)] [(3, .box (enc w))]) (fun i => i ≤ l.length ∧ ∀ j, j < i → settledAt w l places j = true) (fun i => l.length - i) 0 ⟨by omega, fun k h => by omega⟩ ?_ (fun i hi => ?_))
  · refine Sub.of_lists ?_ ?_ ?_ ?_ <;> simp [subT, subO, onlyT, onlyO, isIn, look_cons, lookO_cons, lookO_nil, AV.only, AV.onlys, AO.only, onlys_map, onlys_append, e_only, e_int, e_bool]
  refine AW.seq (AW.reg cd67_2 fun K hK => ?_)
  simp only [g67_2, bR, Nat.reduceEqDiff, reduceIte, Int.reduceBNe, Int.reduceBEq]
  refine .done (hK _ ?_); clear hK K; simp only [thenQ, blockQ]
  refine AW.seq ?_
  refine AW.ite ?_
  simp only [condQ, bR, Nat.reduceEqDiff, reduceIte, Int.reduceBNe, Int.reduceBEq]
  refine ⟨fun h => ?_, fun h => ?_⟩
  case refine_2.refine_2 =>
    have hge : i = l.length := by simp at h; omega
    subst hge
    refine AW.exit ?_; simp only [thenQ, blockQ, reduceIte, Nat.reduceEqDiff]
    refine AW.seq (AW.reg cd67_11 fun K hK => ?_)
    simp only [g67_11, bR, Nat.reduceEqDiff, reduceIte, Int.reduceBNe, Int.reduceBEq]
    refine .done (hK _ ?_); clear hK K; simp only [thenQ, blockQ]
    refine AW.ret ?_
    simp only [blockQ, thenQ, bR, Nat.reduceEqDiff, reduceIte, Int.reduceBNe, Int.reduceBEq]
    rw [settled, all_true hi.2]
  have hlt : i < l.length := by simpa using h
  have bad : settledAt w l places i = false → settled w l places = false := fun h => all_false i hlt h
  refine AW.skip ?_; simp only [thenQ, blockQ, reduceIte, Nat.reduceEqDiff]
  refine AW.seq (AW.block ?_)
  refine AW.seq (AW.reg cd67_3 fun K hK => ?_)
  simp only [g67_3, bR, Nat.reduceEqDiff, reduceIte, Int.reduceBNe, Int.reduceBEq]
  simp only [typR, useR, okR, isE_gl hlt, e_a6, bR, Nat.reduceEqDiff, reduceIte, Int.reduceBNe, Int.reduceBEq]
  rw [stR3_ok (e_isVal _) (by rw [e_okS]; rfl) ((e_sh _).trans rfl)]
  simp only [setAt_nil, bR, Nat.reduceEqDiff, reduceIte, Int.reduceBNe, Int.reduceBEq]
  refine .done (hK _ ?_); clear hK K; simp only [thenQ, blockQ]
  refine AW.seq (AW.reg cd67_4 fun K hK => ?_)
  simp only [g67_4, bR, Nat.reduceEqDiff, reduceIte, Int.reduceBNe, Int.reduceBEq]
  simp only [slE_take (α := Given) 7 (show i ≤ l.length by omega) rfl, Option.map_none, bR, Nat.reduceEqDiff, reduceIte, Int.reduceBNe, Int.reduceBEq]
  try simp only [typR, useR, okR, e_fin, bR, Nat.reduceEqDiff, reduceIte, Int.reduceBNe, Int.reduceBEq]
  refine .done (hK _ ?_); clear hK K; simp only [thenQ, blockQ]
  have hti : (l.take i).length = i := by rw [List.length_take]; omega
  simp only [hti]
  refine AW.block (AW.loop (fun j : Nat => mkA [(1, enc l), (2, enc places), (3, .ptr 3 []), (8, .ptr 8 []), (11, enc l), (12, .int .i64 l.length), (13, .int .i64 i), (20, enc (l.take i)), (21, .int .i64 i), (22, .int .i64 j)] [(3, .box (enc w)), (8, .box (enc (gl l i)))]) (fun j => j ≤ i ∧ ∀ k, k < j → apartIn w places (gl l i) (gl l k) = true) (fun j => i - j) 0 ⟨by omega, fun k h => by omega⟩ ?_ (fun j hj => ?_))
  · refine Sub.of_lists ?_ ?_ ?_ ?_ <;> simp [subT, subO, onlyT, onlyO, isIn, look_cons, lookO_cons, lookO_nil, AV.only, AV.onlys, AO.only, onlys_map, onlys_append, e_only, e_int, e_bool]
  refine AW.seq (AW.reg cd67_5 fun K hK => ?_)
  simp only [g67_5, bR, Nat.reduceEqDiff, reduceIte, Int.reduceBNe, Int.reduceBEq]
  refine .done (hK _ ?_); clear hK K; simp only [thenQ, blockQ]
  refine AW.seq ?_
  refine AW.ite ?_
  simp only [condQ, bR, Nat.reduceEqDiff, reduceIte, Int.reduceBNe, Int.reduceBEq]
  refine ⟨fun h => ?_, fun h => ?_⟩
  case refine_2.refine_2 =>
    have hge : j = i := by simp at h; omega
    subst hge
    refine AW.exit ?_; simp only [thenQ, blockQ, reduceIte, Nat.reduceEqDiff]
    refine AW.reg cd67_10 fun K hK => ?_
    simp only [g67_10, bR, Nat.reduceEqDiff, reduceIte, Int.reduceBNe, Int.reduceBEq]
    refine .done (hK _ ?_); clear hK K; simp only [thenQ, blockQ]
    refine ⟨j + 1, ⟨by omega, fun k hk => ?_⟩, by omega, ?_⟩
    · rcases Nat.lt_or_ge k j with h1 | h1
      · exact hi.2 k h1
      · have : k = j := by omega
        subst this
        exact all_true hj.2
    · rw [wrap_id _ (by omega) (by omega)]
      refine Sub.of_lists ?_ ?_ ?_ ?_ <;> simp [subT, subO, onlyT, onlyO, isIn, look_cons, lookO_cons, lookO_nil, AV.only, AV.onlys, AO.only, onlys_map, onlys_append, e_only, e_int, e_bool]
  have hjl : j < i := by simp at h; omega
  have bad2 : apartIn w places (gl l i) (gl l j) = false → settledAt w l places i = false := fun h => all_false j hjl h
  refine AW.skip ?_; simp only [thenQ, blockQ, reduceIte, Nat.reduceEqDiff]
  refine AW.seq (AW.block ?_)
  refine AW.seq (AW.reg cd67_6 fun K hK => ?_)
  simp only [g67_6, bR, Nat.reduceEqDiff, reduceIte, Int.reduceBNe, Int.reduceBEq]
  try simp only [typR, useR, okR, isE_gl (show j < (l.take i).length by omega), gl_take hjl (show i ≤ l.length by omega), e_a6, bR, Nat.reduceEqDiff, reduceIte, Int.reduceBNe, Int.reduceBEq]
  rw [stR3_ok (e_isVal _) (by rw [e_okS]; rfl) ((e_sh _).trans rfl)]
  simp only [setAt_nil, bR, Nat.reduceEqDiff, reduceIte, Int.reduceBNe, Int.reduceBEq]
  refine .done (hK _ ?_); clear hK K; simp only [thenQ, blockQ]
  refine AW.seq ?_
  refine AW.reg cd67_7 fun K hK => ?_
  simp only [g67_7, bR, Nat.reduceEqDiff, reduceIte, Int.reduceBNe, Int.reduceBEq]
  simp only [List.all_cons, List.all_nil, AV.isVal, Bool.and_true, Bool.and_self, if_true, e_isVal, e_closed, e_fin, bR, Nat.reduceEqDiff, reduceIte, Int.reduceBNe, Int.reduceBEq]
  try simp only [typR, useR, okR, e_fin, bR, Nat.reduceEqDiff, reduceIte, Int.reduceBNe, Int.reduceBEq]
  refine .flat _ (F75 places 107 [.ref (enc w), .ref (enc (gl l i)), .ref (enc (gl l j))] ?_ (fun k => apartAt w (gl l i).mark (gl l j).mark k.toNat) (fun k hk => ?_)) rfl ?_
  · simp [AV.dones, AV.done, Enc.done, e_closed]
  · have hk2 := hp k hk
    have := F107 w (gl l i) (gl l j) k.toNat (by omega) (hok i hlt) (hok j (by omega))
    rwa [show ((k.toNat : Nat) : Int) = k by omega] at this
  try simp only [typR, useR, okR, e_fin, bR, Nat.reduceEqDiff, reduceIte, Int.reduceBNe, Int.reduceBEq]
  refine .done (hK _ ?_); clear hK K; simp only [thenQ, blockQ]
  refine AW.ite ?_
  simp only [condQ, bR, Nat.reduceEqDiff, reduceIte, Int.reduceBNe, Int.reduceBEq]
  refine ⟨fun h => ?_, fun h => ?_⟩
  · refine AW.seq (AW.reg cd67_8 fun K hK => ?_)
    simp only [g67_8, bR, Nat.reduceEqDiff, reduceIte, Int.reduceBNe, Int.reduceBEq]
    refine .done (hK _ ?_); clear hK K; simp only [thenQ, blockQ]
    refine AW.ret ?_
    simp only [blockQ, thenQ, bR, Nat.reduceEqDiff, reduceIte, Int.reduceBNe, Int.reduceBEq]
    have h1 : apartIn w places (gl l i) (gl l j) = false := by simpa [apartIn] using h
    rw [bad (bad2 h1)]
  · refine AW.skip ?_; simp only [thenQ, blockQ, reduceIte, Nat.reduceEqDiff]
    have h1 : apartIn w places (gl l i) (gl l j) = true := by simpa [apartIn] using h
    refine AW.reg cd67_9 fun K hK => ?_
    simp only [g67_9, bR, Nat.reduceEqDiff, reduceIte, Int.reduceBNe, Int.reduceBEq]
    refine .done (hK _ ?_); clear hK K; simp only [thenQ, blockQ]
    refine ⟨j + 1, ⟨by omega, fun k hk => ?_⟩, by omega, ?_⟩
    · rcases Nat.lt_or_ge k j with h2 | h2
      · exact hj.2 k h2
      · have : k = j := by omega
        subst this; exact h1
    · rw [wrap_id _ (by omega) (by omega)]
      refine Sub.of_lists ?_ ?_ ?_ ?_ <;> simp [subT, subO, onlyT, onlyO, isIn, look_cons, lookO_cons, lookO_nil, AV.only, AV.onlys, AO.only, onlys_map, onlys_append, e_only, e_int, e_bool]
end Go.Proofs.Ytkjkbpgdpnapfaa

/-
  FUNCTIONS OF mark BY CONTRACT: arePlaces, list; of cmp and slices: Compare.
-/
namespace Go.Proofs.Ytkjkbpgdpnapfaa
open Go Go.Abs
open Go.Abs.Enc (enc)
theorem F123 (x : Int) : Ctr Try.prog 123 [enc x] (enc false) := by
  refine Ctr.mk' Try.func123 ca123 cc123 cr123 (Nat.le_of_ble_eq_true rfl) (fun hwf W0 D0 E1 => ?_)
  simp only [c123, r123, idx, Nat.zero_add, Nat.reduceAdd]
  refine AW.seq (AW.reg cd123_0 fun K hK => ?_)
  simp only [g123_0, bR, Nat.reduceEqDiff, reduceIte, Int.reduceBNe, Int.reduceBEq]
  refine .done (hK _ ?_); clear hK K; simp only [thenQ, blockQ]
  refine AW.seq (AW.reg cd123_1 fun K hK => ?_)
  simp only [g123_1, bR, Nat.reduceEqDiff, reduceIte, Int.reduceBNe, Int.reduceBEq]
  refine .done (hK _ ?_); clear hK K; simp only [thenQ, blockQ]
  refine AW.ret ?_
  simp only [blockQ, thenQ, bR, Nat.reduceEqDiff, reduceIte, Int.reduceBNe, Int.reduceBEq]
  simp
def cmpI (x y : Int) : Int := if x < y then -1 else if y < x then 1 else 0
theorem F106 (x y : Int) : Ctr Try.prog 106 [enc x, enc y] (enc (cmpI x y)) := by
  refine Ctr.mk' Try.func106 ca106 cc106 cr106 (Nat.le_of_ble_eq_true rfl) (fun hwf W0 D0 E1 => ?_)
  simp only [c106, r106, idx, Nat.zero_add, Nat.reduceAdd]
  refine AW.seq (AW.reg cd106_0 fun K hK => ?_)
  simp only [g106_0, bR, Nat.reduceEqDiff, reduceIte, Int.reduceBNe, Int.reduceBEq]
  refine .done (hK _ ?_); clear hK K; simp only [thenQ, blockQ]
  refine AW.seq (AW.reg cd106_1 fun K hK => ?_)
  simp only [g106_1, bR, Nat.reduceEqDiff, reduceIte, Int.reduceBNe, Int.reduceBEq]
  refine .flat _ (F123 x) rfl ?_
  try simp only [typR, useR, okR, e_fin, bR, Nat.reduceEqDiff, reduceIte, Int.reduceBNe, Int.reduceBEq]
  refine .done (hK _ ?_); clear hK K; simp only [thenQ, blockQ]
  refine AW.seq (AW.reg cd106_2 fun K hK => ?_)
  simp only [g106_2, bR, Nat.reduceEqDiff, reduceIte, Int.reduceBNe, Int.reduceBEq]
  refine .flat _ (F123 y) rfl ?_
  try simp only [typR, useR, okR, e_fin, bR, Nat.reduceEqDiff, reduceIte, Int.reduceBNe, Int.reduceBEq]
  refine .done (hK _ ?_); clear hK K; simp only [thenQ, blockQ]
  refine AW.seq ?_
  refine AW.seq (AW.reg cd106_3 fun K hK => ?_)
  simp only [g106_3, bR, Nat.reduceEqDiff, reduceIte, Int.reduceBNe, Int.reduceBEq]
  refine .done (hK _ ?_); clear hK K; simp only [thenQ, blockQ]
  refine AW.ite ?_
  simp only [condQ, bR, Nat.reduceEqDiff, reduceIte, Int.reduceBNe, Int.reduceBEq]
  refine ⟨fun h => ?_, fun h => ?_⟩
  · cases h
  refine AW.skip ?_; simp only [thenQ, blockQ, reduceIte, Nat.reduceEqDiff]
  refine AW.seq ?_
  refine AW.seq (AW.reg cd106_7 fun K hK => ?_)
  simp only [g106_7, bR, Nat.reduceEqDiff, reduceIte, Int.reduceBNe, Int.reduceBEq]
  refine .done (hK _ ?_); clear hK K; simp only [thenQ, blockQ]
  refine AW.ite ?_
  simp only [condQ, bR, Nat.reduceEqDiff, reduceIte, Int.reduceBNe, Int.reduceBEq]
  refine ⟨fun h => ?_, fun h => ?_⟩
  · cases h
  refine AW.skip ?_; simp only [thenQ, blockQ, reduceIte, Nat.reduceEqDiff]
  refine AW.seq ?_
  refine AW.seq (AW.reg cd106_9 fun K hK => ?_)
  simp only [g106_9, bR, Nat.reduceEqDiff, reduceIte, Int.reduceBNe, Int.reduceBEq]
  refine .done (hK _ ?_); clear hK K; simp only [thenQ, blockQ]
  refine AW.ite ?_
  simp only [condQ, bR, Nat.reduceEqDiff, reduceIte, Int.reduceBNe, Int.reduceBEq]
  refine ⟨fun h => ?_, fun h => ?_⟩
  · refine AW.seq (AW.reg cd106_10 fun K hK => ?_)
    simp only [g106_10, bR, Nat.reduceEqDiff, reduceIte, Int.reduceBNe, Int.reduceBEq]
    refine .done (hK _ ?_); clear hK K; simp only [thenQ, blockQ]
    refine AW.ret ?_
    simp only [blockQ, thenQ, bR, Nat.reduceEqDiff, reduceIte, Int.reduceBNe, Int.reduceBEq]
    have : x < y := by simpa using h
    simp [cmpI, this, e_int]
  have h1 : ¬ x < y := by simpa using h
  refine AW.skip ?_; simp only [thenQ, blockQ, reduceIte, Nat.reduceEqDiff]
  refine AW.seq ?_
  refine AW.seq (AW.reg cd106_11 fun K hK => ?_)
  simp only [g106_11, bR, Nat.reduceEqDiff, reduceIte, Int.reduceBNe, Int.reduceBEq]
  refine .done (hK _ ?_); clear hK K; simp only [thenQ, blockQ]
  refine AW.ite ?_
  simp only [condQ, bR, Nat.reduceEqDiff, reduceIte, Int.reduceBNe, Int.reduceBEq]
  refine ⟨fun h => ?_, fun h => ?_⟩
  · refine AW.seq (AW.reg cd106_12 fun K hK => ?_)
    simp only [g106_12, bR, Nat.reduceEqDiff, reduceIte, Int.reduceBNe, Int.reduceBEq]
    refine .done (hK _ ?_); clear hK K; simp only [thenQ, blockQ]
    refine AW.ret ?_
    simp only [blockQ, thenQ, bR, Nat.reduceEqDiff, reduceIte, Int.reduceBNe, Int.reduceBEq]
    have : y < x := by simpa using h
    simp [cmpI, this, h1, e_int]
  have h2 : ¬ y < x := by simpa using h
  refine AW.skip ?_; simp only [thenQ, blockQ, reduceIte, Nat.reduceEqDiff]
  refine AW.seq (AW.reg cd106_13 fun K hK => ?_)
  simp only [g106_13, bR, Nat.reduceEqDiff, reduceIte, Int.reduceBNe, Int.reduceBEq]
  refine .done (hK _ ?_); clear hK K; simp only [thenQ, blockQ]
  refine AW.ret ?_
  simp only [blockQ, thenQ, bR, Nat.reduceEqDiff, reduceIte, Int.reduceBNe, Int.reduceBEq]
  simp [cmpI, h1, h2, e_int]
def cmpL : List Int → List Int → Int
  | [], [] => 0
  | [], _ :: _ => -1
  | _ :: _, [] => 1
  | a :: x, b :: y => if cmpI a b = 0 then cmpL x y else cmpI a b
theorem cmpL_drop {a b : List Int} {i : Nat} (ha : i < a.length) (hb : i < b.length) : cmpL (a.drop i) (b.drop i) = if cmpI (a.getD i 0) (b.getD i 0) = 0 then cmpL (a.drop (i + 1)) (b.drop (i + 1)) else cmpI (a.getD i 0) (b.getD i 0) := by
  rw [List.drop_eq_getElem_cons ha, List.drop_eq_getElem_cons hb]
  simp only [cmpL, List.getD_eq_getElem?_getD, List.getElem?_eq_getElem ha, List.getElem?_eq_getElem hb, Option.getD_some]
theorem F66 (a b : List Int) : Ctr Try.prog 66 [enc a, enc b] (enc (cmpL a b)) := by
  refine Ctr.mk' Try.func66 ca66 cc66 cr66 (Nat.le_of_ble_eq_true rfl) (fun hwf W0 D0 E1 => ?_)
  simp only [c66, r66, idx, Nat.zero_add, Nat.reduceAdd]
  have hlen : a.length ≤ maxLen := ((wf_list a).1 hwf.1).1
  have hlen2 : b.length ≤ maxLen := ((wf_list b).1 hwf.2.1).1
  simp only [maxLen] at hlen hlen2
  refine AW.seq (AW.reg cd66_0 fun K hK => ?_)
  simp only [g66_0, bR, Nat.reduceEqDiff, reduceIte, Int.reduceBNe, Int.reduceBEq]
  refine .done (hK _ ?_); clear hK K; simp only [thenQ, blockQ]
  refine AW.seq ?_
  refine AW.seq (AW.reg cd66_1 fun K hK => ?_)
  simp only [g66_1, bR, Nat.reduceEqDiff, reduceIte, Int.reduceBNe, Int.reduceBEq]
  try simp only [typR, useR, okR, e_fin, bR, Nat.reduceEqDiff, reduceIte, Int.reduceBNe, Int.reduceBEq]
  refine .done (hK _ ?_); clear hK K; simp only [thenQ, blockQ]
  refine AW.block (AW.loop (fun i : Nat => mkA [(0, enc a), (1, enc b), (9, enc a), (10, .int .i64 a.length), (11, .int .i64 i)] []) (fun i => i ≤ a.length ∧ i ≤ b.length ∧ cmpL a b = cmpL (a.drop i) (b.drop i)) (fun i => a.length - i) 0 ⟨by omega, by omega, rfl⟩ ?_ (fun i hi => ?_))
  · refine Sub.of_lists ?_ ?_ ?_ ?_ <;> simp [subT, subO, onlyT, onlyO, isIn, look_cons, lookO_cons, lookO_nil, AV.only, AV.onlys, AO.only, onlys_map, onlys_append, e_only, e_int, e_bool]
  obtain ⟨hi1, hi2, hi3⟩ := hi
  refine AW.seq (AW.reg cd66_2 fun K hK => ?_)
  simp only [g66_2, bR, Nat.reduceEqDiff, reduceIte, Int.reduceBNe, Int.reduceBEq]
  refine .done (hK _ ?_); clear hK K; simp only [thenQ, blockQ]
  refine AW.seq ?_
  refine AW.ite ?_
  simp only [condQ, bR, Nat.reduceEqDiff, reduceIte, Int.reduceBNe, Int.reduceBEq]
  refine ⟨fun h => ?_, fun h => ?_⟩
  case refine_2.refine_2 =>
    have hge : i = a.length := by simp at h; omega
    subst hge
    refine AW.exit ?_; simp only [thenQ, blockQ, reduceIte, Nat.reduceEqDiff]
    refine AW.seq ?_
    refine AW.seq (AW.reg cd66_11 fun K hK => ?_)
    simp only [g66_11, bR, Nat.reduceEqDiff, reduceIte, Int.reduceBNe, Int.reduceBEq]
    try simp only [typR, useR, okR, e_fin, bR, Nat.reduceEqDiff, reduceIte, Int.reduceBNe, Int.reduceBEq]
    refine .done (hK _ ?_); clear hK K; simp only [thenQ, blockQ]
    rw [List.drop_length] at hi3
    refine AW.ite ?_
    simp only [condQ, bR, Nat.reduceEqDiff, reduceIte, Int.reduceBNe, Int.reduceBEq]
    refine ⟨fun h => ?_, fun h => ?_⟩
    · refine AW.seq (AW.reg cd66_12 fun K hK => ?_)
      simp only [g66_12, bR, Nat.reduceEqDiff, reduceIte, Int.reduceBNe, Int.reduceBEq]
      refine .done (hK _ ?_); clear hK K; simp only [thenQ, blockQ]
      refine AW.ret ?_
      simp only [blockQ, thenQ, bR, Nat.reduceEqDiff, reduceIte, Int.reduceBNe, Int.reduceBEq]
      have hlt : a.length < b.length := by simp at h; omega
      rw [hi3, List.drop_eq_getElem_cons hlt]
      rfl
    · refine AW.skip ?_; simp only [thenQ, blockQ, reduceIte, Nat.reduceEqDiff]
      refine AW.seq (AW.reg cd66_13 fun K hK => ?_)
      simp only [g66_13, bR, Nat.reduceEqDiff, reduceIte, Int.reduceBNe, Int.reduceBEq]
      refine .done (hK _ ?_); clear hK K; simp only [thenQ, blockQ]
      refine AW.ret ?_
      simp only [blockQ, thenQ, bR, Nat.reduceEqDiff, reduceIte, Int.reduceBNe, Int.reduceBEq]
      have hge : b.length ≤ a.length := by simp at h; omega
      rw [hi3, List.drop_of_length_le hge]
      rfl
  have hlt : i < a.length := by simp at h; omega
  refine AW.skip ?_; simp only [thenQ, blockQ, reduceIte, Nat.reduceEqDiff]
  refine AW.seq (AW.block ?_)
  refine AW.seq (AW.reg cd66_3 fun K hK => ?_)
  simp only [g66_3, bR, Nat.reduceEqDiff, reduceIte, Int.reduceBNe, Int.reduceBEq]
  simp only [typR, useR, okR, isE_getD hlt, bR, Nat.reduceEqDiff, reduceIte, Int.reduceBNe, Int.reduceBEq]
  refine .done (hK _ ?_); clear hK K; simp only [thenQ, blockQ]
  refine AW.seq ?_
  refine AW.seq (AW.reg cd66_4 fun K hK => ?_)
  simp only [g66_4, bR, Nat.reduceEqDiff, reduceIte, Int.reduceBNe, Int.reduceBEq]
  try simp only [typR, useR, okR, e_fin, bR, Nat.reduceEqDiff, reduceIte, Int.reduceBNe, Int.reduceBEq]
  refine .done (hK _ ?_); clear hK K; simp only [thenQ, blockQ]
  refine AW.ite ?_
  simp only [condQ, bR, Nat.reduceEqDiff, reduceIte, Int.reduceBNe, Int.reduceBEq]
  refine ⟨fun h => ?_, fun h => ?_⟩
  · have hge : i = b.length := by simp at h; omega
    refine AW.seq (AW.reg cd66_5 fun K hK => ?_)
    simp only [g66_5, bR, Nat.reduceEqDiff, reduceIte, Int.reduceBNe, Int.reduceBEq]
    refine .done (hK _ ?_); clear hK K; simp only [thenQ, blockQ]
    refine AW.ret ?_
    simp only [blockQ, thenQ, bR, Nat.reduceEqDiff, reduceIte, Int.reduceBNe, Int.reduceBEq]
    rw [hi3, List.drop_of_length_le (l := b) (by omega), List.drop_eq_getElem_cons hlt]
    rfl
  have hlb : i < b.length := by simp at h; omega
  refine AW.skip ?_; simp only [thenQ, blockQ, reduceIte, Nat.reduceEqDiff]
  refine AW.seq (AW.reg cd66_6 fun K hK => ?_)
  simp only [g66_6, bR, Nat.reduceEqDiff, reduceIte, Int.reduceBNe, Int.reduceBEq]
  simp only [typR, useR, okR, isE_getD hlb, bR, Nat.reduceEqDiff, reduceIte, Int.reduceBNe, Int.reduceBEq]
  refine .done (hK _ ?_); clear hK K; simp only [thenQ, blockQ]
  refine AW.seq (AW.reg cd66_7 fun K hK => ?_)
  simp only [g66_7, bR, Nat.reduceEqDiff, reduceIte, Int.reduceBNe, Int.reduceBEq]
  try simp only [typR, useR, okR, e_fin, bR, Nat.reduceEqDiff, reduceIte, Int.reduceBNe, Int.reduceBEq]
  refine .flat _ (F106 (a.getD i 0) (b.getD i 0)) rfl ?_
  try simp only [typR, useR, okR, e_fin, bR, Nat.reduceEqDiff, reduceIte, Int.reduceBNe, Int.reduceBEq]
  refine .done (hK _ ?_); clear hK K; simp only [thenQ, blockQ]
  refine AW.seq (AW.reg cd66_8 fun K hK => ?_)
  simp only [g66_8, bR, Nat.reduceEqDiff, reduceIte, Int.reduceBNe, Int.reduceBEq]
  refine .done (hK _ ?_); clear hK K; simp only [thenQ, blockQ]
  rw [cmpL_drop hlt hlb] at hi3
  refine AW.ite ?_
  simp only [condQ, bR, Nat.reduceEqDiff, reduceIte, Int.reduceBNe, Int.reduceBEq]
  refine ⟨fun h => ?_, fun h => ?_⟩
  · refine AW.seq (AW.reg cd66_9 fun K hK => ?_)
    simp only [g66_9, bR, Nat.reduceEqDiff, reduceIte, Int.reduceBNe, Int.reduceBEq]
    refine .done (hK _ ?_); clear hK K; simp only [thenQ, blockQ]
    refine AW.ret ?_
    simp only [blockQ, thenQ, bR, Nat.reduceEqDiff, reduceIte, Int.reduceBNe, Int.reduceBEq]
    have : cmpI (a.getD i 0) (b.getD i 0) ≠ 0 := by simpa using h
    rw [hi3, if_neg this]
  · have : cmpI (a.getD i 0) (b.getD i 0) = 0 := by simpa using h
    refine AW.skip ?_; simp only [thenQ, blockQ, reduceIte, Nat.reduceEqDiff]
    refine AW.reg cd66_10 fun K hK => ?_
    simp only [g66_10, bR, Nat.reduceEqDiff, reduceIte, Int.reduceBNe, Int.reduceBEq]
    refine .done (hK _ ?_); clear hK K; simp only [thenQ, blockQ]
    refine ⟨i + 1, ⟨by omega, by omega, by rw [hi3, if_pos this]⟩, by omega, ?_⟩
    rw [wrap_id _ (by omega) (by omega)]
    refine Sub.of_lists ?_ ?_ ?_ ?_ <;> simp [subT, subO, onlyT, onlyO, isIn, look_cons, lookO_cons, lookO_nil, AV.only, AV.onlys, AO.only, onlys_map, onlys_append, e_only, e_int, e_bool]
end Go.Proofs.Ytkjkbpgdpnapfaa

/-
  FUNCTIONS OF mark BY CONTRACT: Look.
-/
namespace Go.Proofs.Ytkjkbpgdpnapfaa
open Go Go.Abs
open Go.Abs.Enc (enc)
def bitsOf (s : Nat) : Nat → List Int
  | 0 => []
  | i + 1 => bitsOf s i ++ if hasB s i then [(i : Int)] else []
theorem bitsOf_le (s : Nat) : ∀ i, (bitsOf s i).length ≤ i
  | 0 => Nat.le_refl _
  | i + 1 => by
    have := bitsOf_le s i
    simp only [bitsOf, List.length_append]
    split <;> simp <;> omega
theorem bitsOf_in (s : Nat) : ∀ i, i ≤ 6 → ∀ k ∈ bitsOf s i, 0 ≤ k ∧ k < 6
  | 0, _ => by simp [bitsOf]
  | i + 1, h => by
    intro k hk
    simp only [bitsOf, List.mem_append] at hk
    rcases hk with hk | hk
    · exact bitsOf_in s i (by omega) k hk
    · split at hk
      · simp only [List.mem_singleton] at hk; omega
      · cases hk
def better (found : Bool) (best set : List Int) : Bool := (!found || decide ((set.length : Int) < best.length)) || (((set.length : Int) == best.length) && decide (cmpL set best < 0))
def lookStep (w : Arr 5 Int) (poss : List Given) (p : List Int × Bool) (s : Nat) : List Int × Bool := if better p.2 p.1 (bitsOf s 6) && settled w poss (bitsOf s 6) then (bitsOf s 6, true) else p
def lookUp (w : Arr 5 Int) (poss : List Given) : Nat → List Int × Bool
  | 0 => ([], false)
  | s + 1 => lookStep w poss (lookUp w poss s) s
def lookOf (m : Marks) (r : Arr 6 Int) : List Int × Int := if okM m then (if okReading r then ((lookUp m.wear (possG m r) 64).1, 0) else ([], 12)) else ([], 13)
theorem lookUp_le (w : Arr 5 Int) (poss : List Given) : ∀ s, (lookUp w poss s).1.length ≤ 6
  | 0 => by simp [lookUp]
  | s + 1 => by
    have := lookUp_le w poss s
    have h2 := bitsOf_le s 6
    simp only [lookUp, lookStep]
    split
    · exact h2
    · exact this
theorem possG_mem {m : Marks} {r : Arr 6 Int} {g : Given} (h : g ∈ possG m r) : g ∈ m.given := (List.mem_filter.1 h).1
theorem F12 (m : Marks) (r : Arr 6 Int) : Ctr Try.prog 12 [enc m, enc r] (.tuple [enc (lookOf m r).1, enc (lookOf m r).2]) := by
  refine Ctr.mk' Try.func12 ca12 cc12 cr12 (Nat.le_of_ble_eq_true rfl) (fun hwf W0 D0 E1 => ?_)
  simp only [c12, r12, idx, Nat.zero_add, Nat.reduceAdd]
  refine AW.seq (AW.reg cd12_0 fun K hK => ?_)
  simp only [g12_0, bR, Nat.reduceEqDiff, reduceIte, Int.reduceBNe, Int.reduceBEq]
  simp only [e_isVal, bR, Nat.reduceEqDiff, reduceIte, Int.reduceBNe, Int.reduceBEq]
  refine .done (hK _ ?_); clear hK K; simp only [thenQ, blockQ]
  refine AW.seq ?_
  refine AW.seq (AW.reg cd12_1 fun K hK => ?_)
  simp only [g12_1, bR, Nat.reduceEqDiff, reduceIte, Int.reduceBNe, Int.reduceBEq]
  simp only [typR, useR, okR, e_fin, bR, Nat.reduceEqDiff, reduceIte, Int.reduceBNe, Int.reduceBEq]
  refine .flat _ (F47 m) rfl ?_
  simp only [typR, useR, okR, e_fin, bR, Nat.reduceEqDiff, reduceIte, Int.reduceBNe, Int.reduceBEq]
  refine .flat _ (F45 r) rfl ?_
  simp only [typR, useR, okR, e_fin, bs2, bR, Nat.reduceEqDiff, reduceIte, Int.reduceBNe, Int.reduceBEq]
  refine .flat _ (F64 _) rfl ?_
  rw [first2 _ _ 13 12 (by decide) (by decide)]
  simp only [bR, Nat.reduceEqDiff, reduceIte, Int.reduceBNe, Int.reduceBEq]
  refine .done (hK _ ?_); clear hK K; simp only [thenQ, blockQ]
  generalize hw : okM m = bw
  generalize hr : okReading r = br
  cases bw
  · refine AW.seq (AW.reg cd12_2 fun K hK => ?_)
    simp only [g12_2, bR, Nat.reduceEqDiff, reduceIte, Int.reduceBNe, Int.reduceBEq]
    refine .done (hK _ ?_); clear hK K; simp only [thenQ, blockQ]
    refine AW.ite ?_
    simp only [condQ, bR, Nat.reduceEqDiff, reduceIte, Int.reduceBNe, Int.reduceBEq]
    refine ⟨fun h => ?_, fun h => ?_⟩
    · refine AW.seq (AW.reg cd12_3 fun K hK => ?_)
      simp only [g12_3, bR, Nat.reduceEqDiff, reduceIte, Int.reduceBNe, Int.reduceBEq]
      refine .done (hK _ ?_); clear hK K; simp only [thenQ, blockQ]
      refine AW.ret ?_
      simp only [blockQ, thenQ, bR, Nat.reduceEqDiff, reduceIte, Int.reduceBNe, Int.reduceBEq]
      simp [lookOf, hw, nilInt]
    · cases h
  cases br
  · refine AW.seq (AW.reg cd12_2 fun K hK => ?_)
    simp only [g12_2, bR, Nat.reduceEqDiff, reduceIte, Int.reduceBNe, Int.reduceBEq]
    refine .done (hK _ ?_); clear hK K; simp only [thenQ, blockQ]
    refine AW.ite ?_
    simp only [condQ, bR, Nat.reduceEqDiff, reduceIte, Int.reduceBNe, Int.reduceBEq]
    refine ⟨fun h => ?_, fun h => ?_⟩
    · refine AW.seq (AW.reg cd12_3 fun K hK => ?_)
      simp only [g12_3, bR, Nat.reduceEqDiff, reduceIte, Int.reduceBNe, Int.reduceBEq]
      refine .done (hK _ ?_); clear hK K; simp only [thenQ, blockQ]
      refine AW.ret ?_
      simp only [blockQ, thenQ, bR, Nat.reduceEqDiff, reduceIte, Int.reduceBNe, Int.reduceBEq]
      simp [lookOf, hw, hr, nilInt]
    · cases h
  refine AW.seq (AW.reg cd12_2 fun K hK => ?_)
  simp only [g12_2, bR, Nat.reduceEqDiff, reduceIte, Int.reduceBNe, Int.reduceBEq]
  refine .done (hK _ ?_); clear hK K; simp only [thenQ, blockQ]
  refine AW.ite ?_
  simp only [condQ, bR, Nat.reduceEqDiff, reduceIte, Int.reduceBNe, Int.reduceBEq]
  refine ⟨fun h => ?_, fun h => ?_⟩
  · cases h
  refine AW.skip ?_; simp only [thenQ, blockQ, reduceIte, Nat.reduceEqDiff]
  have hlen : m.given.length ≤ 1000 := by have := okM_len hw; omega
  have hpl : (possG m r).length ≤ 1000 := Nat.le_trans (List.length_filter_le _ _) hlen
  have hpm : ∀ g ∈ possG m r, okMark g.mark = true := fun g hg => okM_mark hw g (possG_mem hg)
  obtain ⟨poss, hposs⟩ : ∃ poss, poss = possG m r := ⟨_, rfl⟩
  -- what follows, from the possible ones on
  have key : ∀ c : Ctx, c = ⟨Try.prog, W0, D0, Try.f12.ntmps, ownE E1, E1, noY, none⟩ → AW c (.seq (.reg d12_5 g12_5) (.seq (.reg d12_6 g12_6) (.seq (.seq (.reg d12_7 g12_7) (.block 0 (.loop (.seq (.reg d12_8 g12_8) (.seq (.cond (.t 27) .skip (.exit 0)) (.seq (.block 1 (.seq (.reg d12_9 g12_9) (.seq (.reg d12_10 g12_10) (.seq (.seq (.reg d12_11 g12_11) (.block 2 (.loop (.seq (.reg d12_12 g12_12) (.seq (.cond (.t 30) .skip (.exit 2)) (.seq (.block 3 (.seq (.reg d12_13 g12_13) (.seq (.reg d12_14 g12_14) (.cond (.t 36) (.reg d12_15 g12_15) .skip)))) (.reg d12_16 g12_16))))))) (.seq (.reg d12_17 g12_17) (.seq (.reg d12_18 g12_18) (.cond (.t 71) (.reg d12_19 g12_19) .skip))))))) (.reg d12_20 g12_20))))))) (.seq (.reg d12_21 g12_21) .ret))))
      (retQ [.tmp 4, .tmp 5] (.tuple [enc (lookOf m r).1, enc (lookOf m r).2])) (mkA [(2, .ptr 2 []), (3, .ptr 3 []), (7, enc poss)] [(2, .box (enc m)), (3, .box (enc r))]) := by
    rintro c rfl
    refine AW.seq (AW.reg cd12_5 fun K hK => ?_)
    simp only [g12_5, bR, Nat.reduceEqDiff, reduceIte, Int.reduceBNe, Int.reduceBEq]
    refine .done (hK _ ?_); clear hK K; simp only [thenQ, blockQ]
    refine AW.seq (AW.reg cd12_6 fun K hK => ?_)
    simp only [g12_6, bR, Nat.reduceEqDiff, reduceIte, Int.reduceBNe, Int.reduceBEq]
    refine .done (hK _ ?_); clear hK K; simp only [thenQ, blockQ]
    refine AW.seq ?_
    refine AW.seq (AW.reg cd12_7 fun K hK => ?_)
    simp only [g12_7, bR, Nat.reduceEqDiff, reduceIte, Int.reduceBNe, Int.reduceBEq]
    refine .done (hK _ ?_); clear hK K; simp only [thenQ, blockQ]
    refine AW.block (AW.loop (fun s : Nat => mkA [(2, .ptr 2 []), (3, .ptr 3 []), (7, enc poss), (8, enc (lookUp m.wear poss s).1), (9, .bool (lookUp m.wear poss s).2), (26, .int .i64 s)] [(2, .box (enc m)), (3, .box (enc r))]) (fun s => s ≤ 64) (fun s => 64 - s) 0 (by omega) ?_ (fun s hs => ?_))
    · simp only [lookUp]
      refine Sub.freeL (y := .slice 1 []) [] 8 rfl rfl ?_ ?_ ?_ ?_ ?_
      · simp [dropO, onlyO, AO.only, e_only]
      · simp [subT, fgt, look_cons, AV.only, e_only]; rfl
      · simp [subO, dropO, lookO_cons]
      · simp [onlyT, isIn, lookO_cons, AV.only, e_only]
      · simp [onlyO, AO.only, e_only]
    obtain ⟨best, hbest⟩ : ∃ best, (lookUp m.wear poss s).1 = best := ⟨_, rfl⟩
    obtain ⟨found, hfound⟩ : ∃ found, (lookUp m.wear poss s).2 = found := ⟨_, rfl⟩
    have hlu : lookUp m.wear poss s = (best, found) := by rw [← hbest, ← hfound]
    have hbl : best.length ≤ 6 := by rw [← hbest]; exact lookUp_le _ _ _
    rw [hbest, hfound]
    refine AW.seq (AW.reg cd12_8 fun K hK => ?_)
    simp only [g12_8, bR, Nat.reduceEqDiff, reduceIte, Int.reduceBNe, Int.reduceBEq]
    refine .done (hK _ ?_); clear hK K; simp only [thenQ, blockQ]
    refine AW.seq ?_
    refine AW.ite ?_
    simp only [condQ, bR, Nat.reduceEqDiff, reduceIte, Int.reduceBNe, Int.reduceBEq]
    refine ⟨fun h => ?_, fun h => ?_⟩
    case refine_2.refine_2 =>
      have hge : s = 64 := by simp at h; omega
      subst hge
      refine AW.exit ?_; simp only [thenQ, blockQ, reduceIte, Nat.reduceEqDiff]
      refine AW.seq (AW.reg cd12_21 fun K hK => ?_)
      simp only [g12_21, bR, Nat.reduceEqDiff, reduceIte, Int.reduceBNe, Int.reduceBEq]
      refine .done (hK _ ?_); clear hK K; simp only [thenQ, blockQ]
      refine AW.ret ?_
      simp only [blockQ, thenQ, bR, Nat.reduceEqDiff, reduceIte, Int.reduceBNe, Int.reduceBEq]
      simp only [e_fin, bR, Nat.reduceEqDiff, reduceIte, Int.reduceBNe, Int.reduceBEq]
      simp [lookOf, hw, hr, hlu, ← hposs, e_int]
    have hlt : s < 64 := by simp at h; omega
    refine AW.skip ?_; simp only [thenQ, blockQ, reduceIte, Nat.reduceEqDiff]
    refine AW.seq (AW.block ?_)
    refine AW.seq (AW.reg cd12_9 fun K hK => ?_)
    simp only [g12_9, bR, Nat.reduceEqDiff, reduceIte, Int.reduceBNe, Int.reduceBEq]
    refine .done (hK _ ?_); clear hK K; simp only [thenQ, blockQ]
    refine AW.seq (AW.reg cd12_10 fun K hK => ?_)
    simp only [g12_10, bR, Nat.reduceEqDiff, reduceIte, Int.reduceBNe, Int.reduceBEq]
    refine .done (hK _ ?_); clear hK K; simp only [thenQ, blockQ]
    refine AW.seq ?_
    refine AW.seq (AW.reg cd12_11 fun K hK => ?_)
    simp only [g12_11, bR, Nat.reduceEqDiff, reduceIte, Int.reduceBNe, Int.reduceBEq]
    refine .done (hK _ ?_); clear hK K; simp only [thenQ, blockQ]
    refine AW.block (AW.loop (fun i : Nat => mkA [(2, .ptr 2 []), (3, .ptr 3 []), (7, enc poss), (8, enc best), (9, .bool found), (10, .int .i64 s), (26, .int .i64 s), (11, .own 11 (bitsOf s i).length), (29, .int .i64 i)] [(11, .row 3 1 ((bitsOf s i).map enc)), (2, .box (enc m)), (3, .box (enc r))]) (fun i => i ≤ 6) (fun i => 6 - i) 0 (by omega) ?_ (fun i hi => ?_))
    · refine Sub.adoptL 11 11 3 1 1 ?_ ?_ ?_
      · simp only [absR, Nat.reduceEqDiff, reduceIte]
      · simp only [absR, Nat.reduceEqDiff, reduceIte]
      · simp only [bitsOf, List.map_nil, List.length_nil]
        refine Sub.of_lists ?_ ?_ ?_ ?_ <;> simp [subT, subO, onlyT, onlyO, isIn, look_cons, lookO_cons, lookO_nil, AV.only, AV.onlys, AO.only, onlys_map, onlys_append, e_only, e_int, e_bool]
    refine AW.seq (AW.reg cd12_12 fun K hK => ?_)
    simp only [g12_12, bR, Nat.reduceEqDiff, reduceIte, Int.reduceBNe, Int.reduceBEq]
    refine .done (hK _ ?_); clear hK K; simp only [thenQ, blockQ]
    refine AW.seq ?_
    refine AW.ite ?_
    simp only [condQ, bR, Nat.reduceEqDiff, reduceIte, Int.reduceBNe, Int.reduceBEq]
    refine ⟨fun h => ?_, fun h => ?_⟩
    · have hi6 : i < 6 := by simp at h; omega
      have hml := bitsOf_le s i
      refine AW.skip ?_; simp only [thenQ, blockQ, reduceIte, Nat.reduceEqDiff]
      refine AW.seq (AW.block ?_)
      refine AW.seq (AW.reg cd12_13 fun K hK => ?_)
      simp only [g12_13, bR, Nat.reduceEqDiff, reduceIte, Int.reduceBNe, Int.reduceBEq]
      refine .done (hK _ ?_); clear hK K; simp only [thenQ, blockQ]
      refine AW.seq (AW.reg cd12_14 fun K hK => ?_)
      simp only [g12_14, bR, Nat.reduceEqDiff, reduceIte, Int.reduceBNe, Int.reduceBEq]
      refine .done (hK _ ?_); clear hK K; simp only [thenQ, blockQ]
      refine AW.ite ?_
      simp only [condQ, bR, Nat.reduceEqDiff, reduceIte, Int.reduceBNe, Int.reduceBEq]
      refine ⟨fun h => ?_, fun h => ?_⟩
      · have hb : hasB s i = true := h
        refine AW.reg cd12_15 fun K hK => ?_
        simp only [g12_15, bR, Nat.reduceEqDiff, reduceIte, Int.reduceBNe, Int.reduceBEq]
        rw [appR3_enc 3 1 8 11 rfl rfl (by simp) (by simp [maxLen]; omega) (by simp; omega)]
        simp only [bR, Nat.reduceEqDiff, reduceIte, Int.reduceBNe, Int.reduceBEq]
        refine .done (hK _ ?_); clear hK K; simp only [thenQ, blockQ]
        refine AW.reg cd12_16 fun K hK => ?_
        simp only [g12_16, bR, Nat.reduceEqDiff, reduceIte, Int.reduceBNe, Int.reduceBEq]
        refine .done (hK _ ?_); clear hK K; simp only [thenQ, blockQ]
        refine ⟨i + 1, by omega, by omega, ?_⟩
        rw [wrap_id _ (by omega) (by omega)]
        simp only [bitsOf, hb, reduceIte]
        refine Sub.of_lists ?_ ?_ ?_ ?_ <;> simp [subT, subO, onlyT, onlyO, isIn, look_cons, lookO_cons, lookO_nil, AV.only, AV.onlys, AO.only, onlys_map, onlys_append, e_only, e_int, e_bool]
      · have hb : hasB s i = false := h
        refine AW.skip ?_; simp only [thenQ, blockQ, reduceIte, Nat.reduceEqDiff]
        refine AW.reg cd12_16 fun K hK => ?_
        simp only [g12_16, bR, Nat.reduceEqDiff, reduceIte, Int.reduceBNe, Int.reduceBEq]
        refine .done (hK _ ?_); clear hK K; simp only [thenQ, blockQ]
        refine ⟨i + 1, by omega, by omega, ?_⟩
        rw [wrap_id _ (by omega) (by omega)]
        simp only [bitsOf, hb, reduceIte, Bool.false_eq_true, List.append_nil]
        refine Sub.of_lists ?_ ?_ ?_ ?_ <;> simp [subT, subO, onlyT, onlyO, isIn, look_cons, lookO_cons, lookO_nil, AV.only, AV.onlys, AO.only, onlys_map, onlys_append, e_only, e_int, e_bool]
    have hi6 : i = 6 := by simp at h; omega
    subst hi6
    refine AW.exit ?_; simp only [thenQ, blockQ, reduceIte, Nat.reduceEqDiff]
    have hset := bitsOf_in s 6 (Nat.le_refl _)
    have hsl := bitsOf_le s 6
    have hstep : lookUp m.wear poss (s + 1) = lookStep m.wear poss (best, found) s := by rw [lookUp, hlu]
    obtain ⟨set, hsetd⟩ : ∃ set, bitsOf s 6 = set := ⟨_, rfl⟩
    simp only [lookStep, hsetd] at hstep
    rw [hsetd] at hset hsl ⊢
    refine AW.sub (B := mkA [(2, .ptr 2 []), (3, .ptr 3 []), (7, enc poss), (8, enc best), (9, .bool found), (11, enc set), (26, .int .i64 s)] [(2, .box (enc m)), (3, .box (enc r))]) (Sub.freeL (y := enc set) [11] 11 (by simp only [bR, Nat.reduceEqDiff, reduceIte, Int.reduceBNe, Int.reduceBEq]; rfl) ?_ ?_ ?_ ?_ ?_ ?_) ?_
    · simp only [keepO, List.filter_cons, List.filter_nil, List.contains_cons, List.contains_nil, Nat.reduceBEq, Bool.or_false, Bool.or_true, Bool.true_or, BEq.rfl, bR, Nat.reduceEqDiff, reduceIte, Int.reduceBNe, Int.reduceBEq]
    · simp [dropO, onlyO, AO.only, e_only]
    · simp [subT, fgt, look_cons, AV.only, e_only]
    · simp [subO, dropO, lookO_cons]
    · simp [onlyT, isIn, lookO_cons, AV.only, e_only]
    · simp [onlyO, AO.only, e_only]
    refine AW.seq (AW.via (mkA [(13, .bool (better found best set)), (2, .ptr 2 []), (3, .ptr 3 []), (7, enc poss), (8, enc best), (9, .bool found), (11, enc set), (26, .int .i64 s)] [(2, .box (enc m)), (3, .box (enc r))]) ?_ fun B hB => ?_)
    · refine AW.reg cd12_17 fun K hK => ?_
      simp only [g12_17, bR, Nat.reduceEqDiff, reduceIte, Int.reduceBNe, Int.reduceBEq]
      cases found
      · try simp only [typR, useR, okR, e_fin, bR, Nat.reduceEqDiff, reduceIte, Int.reduceBNe, Int.reduceBEq]
        refine .done (hK _ ?_); clear hK K; simp only [thenQ, blockQ]
        simp only [better, Bool.not_false, Bool.true_or]
        refine Sub.of_lists ?_ ?_ ?_ ?_ <;> simp [subT, subO, onlyT, onlyO, isIn, look_cons, lookO_cons, lookO_nil, AV.only, AV.onlys, AO.only, onlys_map, onlys_append, e_only, e_int, e_bool]
      try simp only [typR, useR, okR, e_fin, bR, Nat.reduceEqDiff, reduceIte, Int.reduceBNe, Int.reduceBEq]
      generalize hb1 : decide ((set.length : Int) < best.length) = b1
      cases b1
      · try simp only [typR, useR, okR, e_fin, bR, Nat.reduceEqDiff, reduceIte, Int.reduceBNe, Int.reduceBEq]
        generalize hb2 : ((set.length : Int) == best.length) = b2
        cases b2
        · try simp only [typR, useR, okR, e_fin, bR, Nat.reduceEqDiff, reduceIte, Int.reduceBNe, Int.reduceBEq]
          refine .done (hK _ ?_); clear hK K; simp only [thenQ, blockQ]
          simp only [better, hb1, hb2, Bool.not_true, Bool.false_or, Bool.or_false, Bool.false_and]
          refine Sub.of_lists ?_ ?_ ?_ ?_ <;> simp [subT, subO, onlyT, onlyO, isIn, look_cons, lookO_cons, lookO_nil, AV.only, AV.onlys, AO.only, onlys_map, onlys_append, e_only, e_int, e_bool]
        try simp only [typR, useR, okR, e_fin, bR, Nat.reduceEqDiff, reduceIte, Int.reduceBNe, Int.reduceBEq]
        refine .flat _ (F66 set best) rfl ?_
        try simp only [typR, useR, okR, e_fin, bR, Nat.reduceEqDiff, reduceIte, Int.reduceBNe, Int.reduceBEq]
        refine .done (hK _ ?_); clear hK K; simp only [thenQ, blockQ]
        simp only [better, hb1, hb2, Bool.not_true, Bool.false_or, Bool.or_false, Bool.true_and]
        refine Sub.of_lists ?_ ?_ ?_ ?_ <;> simp [subT, subO, onlyT, onlyO, isIn, look_cons, lookO_cons, lookO_nil, AV.only, AV.onlys, AO.only, onlys_map, onlys_append, e_only, e_int, e_bool]
      · try simp only [typR, useR, okR, e_fin, bR, Nat.reduceEqDiff, reduceIte, Int.reduceBNe, Int.reduceBEq]
        refine .done (hK _ ?_); clear hK K; simp only [thenQ, blockQ]
        simp only [better, hb1, Bool.not_true, Bool.false_or, Bool.true_or]
        refine Sub.of_lists ?_ ?_ ?_ ?_ <;> simp [subT, subO, onlyT, onlyO, isIn, look_cons, lookO_cons, lookO_nil, AV.only, AV.onlys, AO.only, onlys_map, onlys_append, e_only, e_int, e_bool]
    simp only [thenQ, blockQ]
    refine AW.sub hB ?_
    generalize hbt : better found best set = bt at hstep
    refine AW.seq (AW.reg cd12_18 fun K hK => ?_)
    simp only [g12_18, bR, Nat.reduceEqDiff, reduceIte, Int.reduceBNe, Int.reduceBEq]
    cases bt
    · try simp only [typR, useR, okR, e_fin, bR, Nat.reduceEqDiff, reduceIte, Int.reduceBNe, Int.reduceBEq]
      refine .done (hK _ ?_); clear hK K; simp only [thenQ, blockQ]
      refine AW.ite ?_
      simp only [condQ, bR, Nat.reduceEqDiff, reduceIte, Int.reduceBNe, Int.reduceBEq]
      refine ⟨fun h => ?_, fun h => ?_⟩
      · cases h
      refine AW.skip ?_; simp only [thenQ, blockQ, reduceIte, Nat.reduceEqDiff]
      refine AW.reg cd12_20 fun K hK => ?_
      simp only [g12_20, bR, Nat.reduceEqDiff, reduceIte, Int.reduceBNe, Int.reduceBEq]
      refine .done (hK _ ?_); clear hK K; simp only [thenQ, blockQ]
      refine ⟨s + 1, by omega, by omega, ?_⟩
      rw [hstep, wrap_id _ (by omega) (by omega)]
      simp only [Bool.false_and, Bool.false_eq_true, if_false]
      refine Sub.of_lists ?_ ?_ ?_ ?_ <;> simp [subT, subO, onlyT, onlyO, isIn, look_cons, lookO_cons, lookO_nil, AV.only, AV.onlys, AO.only, onlys_map, onlys_append, e_only, e_int, e_bool]
    · try simp only [typR, useR, okR, e_fin, bR, Nat.reduceEqDiff, reduceIte, Int.reduceBNe, Int.reduceBEq]
      refine .flat _ (F67 m.wear poss set (by rw [hposs]; exact hpm) hset) rfl ?_
      try simp only [typR, useR, okR, e_fin, bR, Nat.reduceEqDiff, reduceIte, Int.reduceBNe, Int.reduceBEq]
      refine .done (hK _ ?_); clear hK K; simp only [thenQ, blockQ]
      refine AW.ite ?_
      simp only [condQ, bR, Nat.reduceEqDiff, reduceIte, Int.reduceBNe, Int.reduceBEq]
      refine ⟨fun h => ?_, fun h => ?_⟩
      · refine AW.reg cd12_19 fun K hK => ?_
        simp only [g12_19, bR, Nat.reduceEqDiff, reduceIte, Int.reduceBNe, Int.reduceBEq]
        refine .done (hK _ ?_); clear hK K; simp only [thenQ, blockQ]
        refine AW.reg cd12_20 fun K hK => ?_
        simp only [g12_20, bR, Nat.reduceEqDiff, reduceIte, Int.reduceBNe, Int.reduceBEq]
        refine .done (hK _ ?_); clear hK K; simp only [thenQ, blockQ]
        refine ⟨s + 1, by omega, by omega, ?_⟩
        rw [hstep, wrap_id _ (by omega) (by omega)]
        have h' : settled m.wear poss set = true := h
        simp only [h', Bool.true_and, if_true]
        refine Sub.of_lists ?_ ?_ ?_ ?_ <;> simp [subT, subO, onlyT, onlyO, isIn, look_cons, lookO_cons, lookO_nil, AV.only, AV.onlys, AO.only, onlys_map, onlys_append, e_only, e_int, e_bool]
      · refine AW.skip ?_; simp only [thenQ, blockQ, reduceIte, Nat.reduceEqDiff]
        refine AW.reg cd12_20 fun K hK => ?_
        simp only [g12_20, bR, Nat.reduceEqDiff, reduceIte, Int.reduceBNe, Int.reduceBEq]
        refine .done (hK _ ?_); clear hK K; simp only [thenQ, blockQ]
        refine ⟨s + 1, by omega, by omega, ?_⟩
        rw [hstep, wrap_id _ (by omega) (by omega)]
        have h' : settled m.wear poss set = false := h
        simp only [h', Bool.true_and, Bool.false_eq_true, if_false]
        refine Sub.of_lists ?_ ?_ ?_ ?_ <;> simp [subT, subO, onlyT, onlyO, isIn, look_cons, lookO_cons, lookO_nil, AV.only, AV.onlys, AO.only, onlys_map, onlys_append, e_only, e_int, e_bool]
  refine AW.seq (AW.reg cd12_4 fun K hK => ?_)
  simp only [g12_4, bR, Nat.reduceEqDiff, reduceIte, Int.reduceBNe, Int.reduceBEq]
  simp only [typR, useR, okR, e_fin, bR, Nat.reduceEqDiff, reduceIte, Int.reduceBNe, Int.reduceBEq]
  refine .obj false [(7, 25)] [] [enc m, enc r] (possPost 7 m r) rfl (F65 m r (okM_mark hw) hlen) Gvn.nil ⟨.inl ⟨(e_ren _ _).symm, e_only _ _, e_isVal _⟩, .inl ⟨(e_ren _ _).symm, e_only _ _, e_isVal _⟩, trivial⟩ ?_ ?_
  · rintro x os' (⟨_, rfl, rfl⟩ | ⟨k, rfl, rfl⟩)
    · exact Bck.nil (fun _ => rfl) (fun h => by cases h)
    · exact Bck.new1 (fun p => map_only p _) (fun h => by cases h) rfl (fun h => by cases h) rfl (by decide)
  · rintro x os' (⟨hp, rfl, rfl⟩ | ⟨k, rfl, rfl⟩)
    · simp only [e_ren, renR, List.nil_append, e_fin, bR, Nat.reduceEqDiff, reduceIte, Int.reduceBNe, Int.reduceBEq]
      refine .done (hK _ ?_); clear hK K; simp only [thenQ, blockQ]
      refine AW.sub ?_ (key _ rfl)
      rw [hposs, hp]
      refine Sub.of_lists ?_ ?_ ?_ ?_ <;> simp [subT, subO, onlyT, onlyO, isIn, look_cons, lookO_cons, lookO_nil, AV.only, AV.onlys, AO.only, onlys_map, onlys_append, e_only, e_int, e_bool]
    · simp only [rowG, renR, rens_map_enc, List.cons_append, List.nil_append, bR, Nat.reduceEqDiff, reduceIte, Int.reduceBNe, Int.reduceBEq]
      refine .done (hK _ ?_); clear hK K; simp only [thenQ, blockQ]
      refine AW.sub (Sub.freeL (y := enc poss) [25] 7 rfl ?_ ?_ ?_ ?_ ?_ ?_) (key _ rfl)
      · simp only [keepO, List.filter_cons, List.filter_nil, List.contains_cons, List.contains_nil, Nat.reduceBEq, Bool.or_false, Bool.or_true, Bool.true_or, BEq.rfl, finV_take (α := Given) (sz := 7) rfl, take_row, hposs, bR, Nat.reduceEqDiff, reduceIte, Int.reduceBNe, Int.reduceBEq]
      · simp [dropO, onlyO, AO.only, e_only]
      · simp [subT, fgt, look_cons, AV.only]
      · simp [subO, dropO, lookO_cons]
      · simp [onlyT, isIn, lookO_cons, AV.only, e_only]
      · simp [onlyO, AO.only, e_only]
end Go.Proofs.Ytkjkbpgdpnapfaa

/-
  FUNCTIONS OF mark BY CONTRACT: arePlaces, list.
-/
namespace Go.Proofs.Ytkjkbpgdpnapfaa
open Go Go.Abs
open Go.Abs.Enc (enc)
theorem F71 (l : List Int) : Ctr Try.prog 71 [enc l] (enc (okPlaces l)) := by
  refine Ctr.mk' Try.func71 ca71 cc71 cr71 (Nat.le_of_ble_eq_true rfl) (fun hwf W0 D0 E1 => ?_)
  simp only [c71, r71, idx, Nat.zero_add, Nat.reduceAdd]
  have hlen : l.length ≤ maxLen := ((wf_list l).1 hwf.1).1
  simp only [maxLen] at hlen
  refine AW.seq (AW.reg cd71_0 fun K hK => ?_)
  simp only [g71_0, bR, Nat.reduceEqDiff, reduceIte, Int.reduceBNe, Int.reduceBEq]
  refine .done (hK _ ?_); clear hK K; simp only [thenQ, blockQ]
  refine AW.seq ?_
  refine AW.seq (AW.reg cd71_1 fun K hK => ?_)
  simp only [g71_1, bR, Nat.reduceEqDiff, reduceIte, Int.reduceBNe, Int.reduceBEq]
  try simp only [typR, useR, okR, e_fin, bR, Nat.reduceEqDiff, reduceIte, Int.reduceBNe, Int.reduceBEq]
  refine .done (hK _ ?_); clear hK K; simp only [thenQ, blockQ]
  refine AW.block (AW.loop (fun i : Nat => mkA [(0, enc l), (5, enc l), (6, .int .i64 l.length), (7, .int .i64 i)] []) (fun i => i ≤ l.length ∧ ∀ j, j < i → placeAt l j = true) (fun i => l.length - i) 0 ⟨by omega, fun k h => by omega⟩ ?_ (fun i hi => ?_))
  · refine Sub.of_lists ?_ ?_ ?_ ?_ <;> simp [subT, subO, onlyT, onlyO, isIn, look_cons, lookO_cons, lookO_nil, AV.only, AV.onlys, AO.only, onlys_map, onlys_append, e_only, e_int, e_bool]
  refine AW.seq (AW.reg cd71_2 fun K hK => ?_)
  simp only [g71_2, bR, Nat.reduceEqDiff, reduceIte, Int.reduceBNe, Int.reduceBEq]
  refine .done (hK _ ?_); clear hK K; simp only [thenQ, blockQ]
  refine AW.seq ?_
  refine AW.ite ?_
  simp only [condQ, bR, Nat.reduceEqDiff, reduceIte, Int.reduceBNe, Int.reduceBEq]
  refine ⟨fun h => ?_, fun h => ?_⟩
  case refine_2.refine_2 =>
    have hge : i = l.length := by simp at h; omega
    subst hge
    refine AW.exit ?_; simp only [thenQ, blockQ, reduceIte, Nat.reduceEqDiff]
    refine AW.seq (AW.reg cd71_7 fun K hK => ?_)
    simp only [g71_7, bR, Nat.reduceEqDiff, reduceIte, Int.reduceBNe, Int.reduceBEq]
    refine .done (hK _ ?_); clear hK K; simp only [thenQ, blockQ]
    refine AW.ret ?_
    simp only [blockQ, thenQ, bR, Nat.reduceEqDiff, reduceIte, Int.reduceBNe, Int.reduceBEq]
    rw [okPlaces, all_true hi.2]
  have hlt : i < l.length := by simpa using h
  have bad : placeAt l i = false → okPlaces l = false := fun h => all_false i hlt h
  refine AW.skip ?_; simp only [thenQ, blockQ, reduceIte, Nat.reduceEqDiff]
  refine AW.seq (AW.block ?_)
  refine AW.seq (AW.reg cd71_3 fun K hK => ?_)
  simp only [g71_3, bR, Nat.reduceEqDiff, reduceIte, Int.reduceBNe, Int.reduceBEq]
  simp only [typR, useR, okR, isE_getD hlt, bR, Nat.reduceEqDiff, reduceIte, Int.reduceBNe, Int.reduceBEq]
  refine .done (hK _ ?_); clear hK K; simp only [thenQ, blockQ]
  refine AW.seq (AW.reg cd71_4 fun K hK => ?_)
  simp only [g71_4, bR, Nat.reduceEqDiff, reduceIte, Int.reduceBNe, Int.reduceBEq]
  try simp only [typR, useR, okR, e_fin, bR, Nat.reduceEqDiff, reduceIte, Int.reduceBNe, Int.reduceBEq]
  refine .flat _ (F89 (l.getD i 0) 0 5) rfl ?_
  generalize hr : inR 0 5 (l.getD i 0) = br
  cases br
  · try simp only [typR, useR, okR, e_fin, bR, Nat.reduceEqDiff, reduceIte, Int.reduceBNe, Int.reduceBEq]
    refine .done (hK _ ?_); clear hK K; simp only [thenQ, blockQ]
    refine AW.ite ?_
    simp only [condQ, bR, Nat.reduceEqDiff, reduceIte, Int.reduceBNe, Int.reduceBEq]
    refine ⟨fun h => ?_, fun h => ?_⟩
    · refine AW.seq (AW.reg cd71_5 fun K hK => ?_)
      simp only [g71_5, bR, Nat.reduceEqDiff, reduceIte, Int.reduceBNe, Int.reduceBEq]
      refine .done (hK _ ?_); clear hK K; simp only [thenQ, blockQ]
      refine AW.ret ?_
      simp only [blockQ, thenQ, bR, Nat.reduceEqDiff, reduceIte, Int.reduceBNe, Int.reduceBEq]
      rw [bad (by simp only [placeAt, hr, Bool.false_and])]
    · cases h
  try simp only [typR, useR, okR, e_fin, bR, Nat.reduceEqDiff, reduceIte, Int.reduceBNe, Int.reduceBEq]
  generalize hz : decide (0 < (i : Int)) = bz
  cases bz
  · have hz' : i = 0 := by simp at hz; omega
    try simp only [typR, useR, okR, e_fin, bR, Nat.reduceEqDiff, reduceIte, Int.reduceBNe, Int.reduceBEq]
    refine .done (hK _ ?_); clear hK K; simp only [thenQ, blockQ]
    refine AW.ite ?_
    simp only [condQ, bR, Nat.reduceEqDiff, reduceIte, Int.reduceBNe, Int.reduceBEq]
    refine ⟨fun h => ?_, fun h => ?_⟩
    · cases h
    refine AW.skip ?_; simp only [thenQ, blockQ, reduceIte, Nat.reduceEqDiff]
    refine AW.reg cd71_6 fun K hK => ?_
    simp only [g71_6, bR, Nat.reduceEqDiff, reduceIte, Int.reduceBNe, Int.reduceBEq]
    refine .done (hK _ ?_); clear hK K; simp only [thenQ, blockQ]
    refine ⟨i + 1, ⟨by omega, fun k hk' => ?_⟩, by omega, ?_⟩
    · by_cases hki : k = i
      · rw [hki, placeAt, hr]; simp [hz']
      · exact hi.2 k (by omega)
    · rw [wrap_id _ (by omega) (by omega)]
      refine Sub.of_lists ?_ ?_ ?_ ?_ <;> simp [subT, subO, onlyT, onlyO, isIn, look_cons, lookO_cons, lookO_nil, AV.only, AV.onlys, AO.only, onlys_map, onlys_append, e_only, e_int, e_bool]
  · have hpos : 0 < i := by simpa using hz
    have hpl : i - 1 < l.length := by omega
    have hpred : IntKind.i64.wrap ((i : Int) - 1) = ((i - 1 : Nat) : Int) := by rw [wrap_id _ (by omega) (by omega)]; omega
    simp only [typR, useR, okR, hpred, isE_getD hpl, isE_getD hlt, bR, Nat.reduceEqDiff, reduceIte, Int.reduceBNe, Int.reduceBEq]
    refine .done (hK _ ?_); clear hK K; simp only [thenQ, blockQ]
    refine AW.ite ?_
    simp only [condQ, bR, Nat.reduceEqDiff, reduceIte, Int.reduceBNe, Int.reduceBEq]
    refine ⟨fun h => ?_, fun h => ?_⟩
    · refine AW.seq (AW.reg cd71_5 fun K hK => ?_)
      simp only [g71_5, bR, Nat.reduceEqDiff, reduceIte, Int.reduceBNe, Int.reduceBEq]
      refine .done (hK _ ?_); clear hK K; simp only [thenQ, blockQ]
      refine AW.ret ?_
      simp only [blockQ, thenQ, bR, Nat.reduceEqDiff, reduceIte, Int.reduceBNe, Int.reduceBEq]
      have : (i == 0 || decide (l.getD (i - 1) 0 < l.getD i 0)) = false := by
        have h1 : l.getD i 0 ≤ l.getD (i - 1) 0 := of_decide_eq_true h
        have h2 : ¬ (l.getD (i - 1) 0 < l.getD i 0) := by omega
        have h3 : ¬ i = 0 := by omega
        simp only [decide_eq_false h2, Bool.or_false, beq_eq_false_iff_ne, ne_eq, h3, not_false_eq_true]
      rw [bad (by simp only [placeAt, this, Bool.and_false])]
    have hprev : (i == 0 || decide (l.getD (i - 1) 0 < l.getD i 0)) = true := by
      have h1 : ¬ (l.getD i 0 ≤ l.getD (i - 1) 0) := of_decide_eq_false h
      have h2 : l.getD (i - 1) 0 < l.getD i 0 := by omega
      simp only [decide_eq_true h2, Bool.or_true]
    refine AW.skip ?_; simp only [thenQ, blockQ, reduceIte, Nat.reduceEqDiff]
    refine AW.reg cd71_6 fun K hK => ?_
    simp only [g71_6, bR, Nat.reduceEqDiff, reduceIte, Int.reduceBNe, Int.reduceBEq]
    refine .done (hK _ ?_); clear hK K; simp only [thenQ, blockQ]
    refine ⟨i + 1, ⟨by omega, fun k hk' => ?_⟩, by omega, ?_⟩
    · by_cases hki : k = i
      · rw [hki, placeAt, hr, hprev]; rfl
      · exact hi.2 k (by omega)
    · rw [wrap_id _ (by omega) (by omega)]
      refine Sub.of_lists ?_ ?_ ?_ ?_ <;> simp [subT, subO, onlyT, onlyO, isIn, look_cons, lookO_cons, lookO_nil, AV.only, AV.onlys, AO.only, onlys_map, onlys_append, e_only, e_int, e_bool]
theorem F81 (w : Int) (h0 : 0 ≤ w) (h1 : w ≤ 31) : Ctr Try.prog 81 [enc w] (enc (members w 5)) := by
  refine Ctr.mk' Try.func81 ca81 cc81 cr81 (Nat.le_of_ble_eq_true rfl) (fun hwf W0 D0 E1 => ?_)
  simp only [c81, r81, idx, Nat.zero_add, Nat.reduceAdd]
  refine AW.seq (AW.reg cd81_0 fun K hK => ?_)
  simp only [g81_0, bR, Nat.reduceEqDiff, reduceIte, Int.reduceBNe, Int.reduceBEq]
  refine .done (hK _ ?_); clear hK K; simp only [thenQ, blockQ]
  refine AW.seq (AW.reg cd81_1 fun K hK => ?_)
  simp only [g81_1, bR, Nat.reduceEqDiff, reduceIte, Int.reduceBNe, Int.reduceBEq]
  refine .done (hK _ ?_); clear hK K; simp only [thenQ, blockQ]
  refine AW.seq ?_
  refine AW.seq (AW.reg cd81_2 fun K hK => ?_)
  simp only [g81_2, bR, Nat.reduceEqDiff, reduceIte, Int.reduceBNe, Int.reduceBEq]
  refine .done (hK _ ?_); clear hK K; simp only [thenQ, blockQ]
  refine AW.block (AW.loop (fun i : Nat => mkA [(0, .int .i64 w), (3, .own 3 (members w i).length), (5, .int .i64 i)] [(3, .row 3 1 ((members w i).map enc))]) (fun i => i ≤ 5) (fun i => 5 - i) 0 (by omega) ?_ (fun i hi => ?_))
  · refine Sub.adoptL 3 3 3 1 1 ?_ ?_ ?_
    · simp only [absR, Nat.reduceEqDiff, reduceIte]
    · simp only [absR]
    · simp only [members, List.map_nil, List.length_nil]
      refine Sub.of_lists ?_ ?_ ?_ ?_ <;> simp [subT, subO, onlyT, onlyO, isIn, look_cons, lookO_cons, lookO_nil, AV.only, AV.onlys, AO.only, onlys_map, onlys_append, e_only, e_int, e_bool]
  refine AW.seq (AW.reg cd81_3 fun K hK => ?_)
  simp only [g81_3, bR, Nat.reduceEqDiff, reduceIte, Int.reduceBNe, Int.reduceBEq]
  refine .done (hK _ ?_); clear hK K; simp only [thenQ, blockQ]
  refine AW.seq ?_
  refine AW.ite ?_
  simp only [condQ, bR, Nat.reduceEqDiff, reduceIte, Int.reduceBNe, Int.reduceBEq]
  refine ⟨fun h => ?_, fun h => ?_⟩
  · have hlt : i < 5 := by simp at h; omega
    have hml := members_le w i
    refine AW.skip ?_; simp only [thenQ, blockQ, reduceIte, Nat.reduceEqDiff]
    refine AW.seq (AW.block ?_)
    refine AW.seq (AW.reg cd81_4 fun K hK => ?_)
    simp only [g81_4, bR, Nat.reduceEqDiff, reduceIte, Int.reduceBNe, Int.reduceBEq]
    refine .done (hK _ ?_); clear hK K; simp only [thenQ, blockQ]
    refine AW.seq ?_
    refine AW.reg cd81_5 fun K hK => ?_
    simp only [g81_5, bR, Nat.reduceEqDiff, reduceIte, Int.reduceBNe, Int.reduceBEq]
    refine .flat _ (F110 w i) rfl ?_
    simp only [has_bit w h0 h1 i hlt]
    try simp only [typR, useR, okR, e_fin, bR, Nat.reduceEqDiff, reduceIte, Int.reduceBNe, Int.reduceBEq]
    refine .done (hK _ ?_); clear hK K; simp only [thenQ, blockQ]
    refine AW.ite ?_
    simp only [condQ, bR, Nat.reduceEqDiff, reduceIte, Int.reduceBNe, Int.reduceBEq]
    refine ⟨fun h => ?_, fun h => ?_⟩
    · have hb : bit w i = true := h
      refine AW.reg cd81_6 fun K hK => ?_
      simp only [g81_6, bR, Nat.reduceEqDiff, reduceIte, Int.reduceBNe, Int.reduceBEq]
      rw [appR3_enc 3 1 8 3 rfl rfl (by simp) (by simp [maxLen]; omega) (by simp; omega)]
      simp only [bR, Nat.reduceEqDiff, reduceIte, Int.reduceBNe, Int.reduceBEq]
      refine .done (hK _ ?_); clear hK K; simp only [thenQ, blockQ]
      refine AW.reg cd81_7 fun K hK => ?_
      simp only [g81_7, bR, Nat.reduceEqDiff, reduceIte, Int.reduceBNe, Int.reduceBEq]
      refine .done (hK _ ?_); clear hK K; simp only [thenQ, blockQ]
      refine ⟨i + 1, by omega, by omega, ?_⟩
      rw [wrap_id _ (by omega) (by omega)]
      simp only [members, hb, reduceIte]
      refine Sub.of_lists ?_ ?_ ?_ ?_ <;> simp [subT, subO, onlyT, onlyO, isIn, look_cons, lookO_cons, lookO_nil, AV.only, AV.onlys, AO.only, onlys_map, onlys_append, e_only, e_int, e_bool]
    · have hb : bit w i = false := h
      refine AW.skip ?_; simp only [thenQ, blockQ, reduceIte, Nat.reduceEqDiff]
      refine AW.reg cd81_7 fun K hK => ?_
      simp only [g81_7, bR, Nat.reduceEqDiff, reduceIte, Int.reduceBNe, Int.reduceBEq]
      refine .done (hK _ ?_); clear hK K; simp only [thenQ, blockQ]
      refine ⟨i + 1, by omega, by omega, ?_⟩
      rw [wrap_id _ (by omega) (by omega)]
      simp only [members, hb, reduceIte, Bool.false_eq_true, List.append_nil]
      refine Sub.of_lists ?_ ?_ ?_ ?_ <;> simp [subT, subO, onlyT, onlyO, isIn, look_cons, lookO_cons, lookO_nil, AV.only, AV.onlys, AO.only, onlys_map, onlys_append, e_only, e_int, e_bool]
  · have hge : i = 5 := by simp at h; omega
    subst hge
    refine AW.exit ?_; simp only [thenQ, blockQ, reduceIte, Nat.reduceEqDiff]
    refine AW.seq (AW.reg cd81_8 fun K hK => ?_)
    simp only [g81_8, bR, Nat.reduceEqDiff, reduceIte, Int.reduceBNe, Int.reduceBEq]
    refine .done (hK _ ?_); clear hK K; simp only [thenQ, blockQ]
    refine AW.ret ?_
    simp only [blockQ, thenQ, bR, Nat.reduceEqDiff, reduceIte, Int.reduceBNe, Int.reduceBEq]
end Go.Proofs.Ytkjkbpgdpnapfaa

/-
  FUNCTIONS OF mark BY CONTRACT: Looked.
-/
namespace Go.Proofs.Ytkjkbpgdpnapfaa
open Go Go.Abs
open Go.Abs.Enc (enc)
theorem okPlaces_in {l : List Int} (h : okPlaces l = true) : ∀ k ∈ l, 0 ≤ k ∧ k < 6 := by
  intro k hk
  simp only [okPlaces, List.all_eq_true, List.mem_range] at h
  obtain ⟨i, hi, rfl⟩ := List.getElem_of_mem hk
  have := h i hi
  simp only [placeAt, inR, List.getD_eq_getElem?_getD, List.getElem?_eq_getElem hi, Option.getD_some, Bool.and_eq_true, decide_eq_true_eq] at this
  omega
theorem F76 (m : Marks) (g : Given) (worn : Arr 6 Int) (k : Nat) (hk : k < 6) (hg : okMark g.mark = true) : Ctr Try.prog 76 (enc (k : Int) :: [.ref (enc m), .ref (enc g), .ref (enc worn)]) (enc (band (m.wear.g (g.mark.g k).toNat) (worn.g k) == 0)) := by
  refine Ctr.mk' Try.func76 ca76 cc76 cr76 (Nat.le_of_ble_eq_true rfl) (fun hwf W0 D0 E1 => ?_)
  simp only [c76, r76, idx, Nat.zero_add, Nat.reduceAdd]
  have h1 := okMark_at hg hk
  refine AW.seq (AW.reg cd76_0 fun K hK => ?_)
  simp only [g76_0, bR, Nat.reduceEqDiff, reduceIte, Int.reduceBNe, Int.reduceBEq]
  refine .done (hK _ ?_); clear hK K; simp only [thenQ, blockQ]
  refine AW.seq (AW.reg cd76_1 fun K hK => ?_)
  simp only [g76_1, bR, Nat.reduceEqDiff, reduceIte, Int.reduceBNe, Int.reduceBEq]
  try simp only [typR, useR, okR, e_fin, bR, Nat.reduceEqDiff, reduceIte, Int.reduceBNe, Int.reduceBEq]
  refine .flat _ (F77 m.wear g.mark k hk h1.1 h1.2) rfl ?_
  simp only [typR, useR, okR, inB_nat 1 worn hk rfl, atL_g worn hk, get_g worn hk, bR, Nat.reduceEqDiff, reduceIte, Int.reduceBNe, Int.reduceBEq]
  refine .flat _ (F78 _ _) rfl ?_
  try simp only [typR, useR, okR, e_fin, bR, Nat.reduceEqDiff, reduceIte, Int.reduceBNe, Int.reduceBEq]
  refine .done (hK _ ?_); clear hK K; simp only [thenQ, blockQ]
  refine AW.ret ?_
  simp only [blockQ, thenQ, bR, Nat.reduceEqDiff, reduceIte, Int.reduceBNe, Int.reduceBEq]
  simp only [bne, Bool.not_not]
def clash (w : Arr 5 Int) (worn : Arr 6 Int) (places : List Int) (g : Given) : Bool := places.any fun k => band (w.g (g.mark.g k.toNat).toNat) (worn.g k.toNat) == 0
theorem F74 (m : Marks) (g : Given) (worn : Arr 6 Int) (places : List Int) (hg : okMark g.mark = true) (hp : ∀ k ∈ places, 0 ≤ k ∧ k < 6) : Ctr Try.prog 74 (enc g :: [.ref (enc places), .ref (enc m), .ref (enc worn)]) (enc (clash m.wear worn places g)) := by
  refine Ctr.mk' Try.func74 ca74 cc74 cr74 (Nat.le_of_ble_eq_true rfl) (fun hwf W0 D0 E1 => ?_)
  simp only [c74, r74, idx, Nat.zero_add, Nat.reduceAdd]
  refine AW.seq (AW.reg cd74_0 fun K hK => ?_)
  simp only [g74_0, bR, Nat.reduceEqDiff, reduceIte, Int.reduceBNe, Int.reduceBEq]
  simp only [e_isVal, bR, Nat.reduceEqDiff, reduceIte, Int.reduceBNe, Int.reduceBEq]
  refine .done (hK _ ?_); clear hK K; simp only [thenQ, blockQ]
  refine AW.seq (AW.reg cd74_1 fun K hK => ?_)
  simp only [g74_1, bR, Nat.reduceEqDiff, reduceIte, Int.reduceBNe, Int.reduceBEq]
  try simp only [typR, useR, okR, e_fin, bR, Nat.reduceEqDiff, reduceIte, Int.reduceBNe, Int.reduceBEq]
  try simp only [List.all_cons, List.all_nil, AV.isVal, Bool.and_true, Bool.and_self, if_true, e_isVal, e_closed, e_fin, bR, Nat.reduceEqDiff, reduceIte, Int.reduceBNe, Int.reduceBEq]
  try simp only [typR, useR, okR, e_fin, bR, Nat.reduceEqDiff, reduceIte, Int.reduceBNe, Int.reduceBEq]
  refine .flat _ (F75 places 76 [.ref (enc m), .ref (enc g), .ref (enc worn)] ?_ (fun k => band (m.wear.g (g.mark.g k.toNat).toNat) (worn.g k.toNat) == 0) (fun k hk => ?_)) rfl ?_
  · simp [AV.dones, AV.done, Enc.done, e_closed]
  · have hk2 := hp k hk
    have := F76 m g worn k.toNat (by omega) hg
    rwa [show ((k.toNat : Nat) : Int) = k by omega] at this
  try simp only [typR, useR, okR, e_fin, bR, Nat.reduceEqDiff, reduceIte, Int.reduceBNe, Int.reduceBEq]
  refine .done (hK _ ?_); clear hK K; simp only [thenQ, blockQ]
  refine AW.ret ?_
  simp only [blockQ, thenQ, bR, Nat.reduceEqDiff, reduceIte, Int.reduceBNe, Int.reduceBEq]
  rfl
def lookedG (m : Marks) (r worn : Arr 6 Int) (places : List Int) : List Given := keep (clash m.wear worn places) (possG m r)
def lookedOf (m : Marks) (r worn : Arr 6 Int) (places : List Int) : List Int × Int :=
  if okM m then (if okReading r then (if okReading worn then (if okPlaces places then ((lookedG m r worn places).map (·.owner), 0) else ([], 18)) else ([], 12)) else ([], 12)) else ([], 13)
theorem F14 (m : Marks) (r worn : Arr 6 Int) (places : List Int) : Ctr Try.prog 14 [enc m, enc r, enc worn, enc places] (.tuple [enc (lookedOf m r worn places).1, enc (lookedOf m r worn places).2]) := by
  refine Ctr.mk' Try.func14 ca14 cc14 cr14 (Nat.le_of_ble_eq_true rfl) (fun hwf W0 D0 E1 => ?_)
  simp only [c14, r14, idx, Nat.zero_add, Nat.reduceAdd]
  refine AW.seq (AW.reg cd14_0 fun K hK => ?_)
  simp only [g14_0, bR, Nat.reduceEqDiff, reduceIte, Int.reduceBNe, Int.reduceBEq]
  simp only [e_isVal, bR, Nat.reduceEqDiff, reduceIte, Int.reduceBNe, Int.reduceBEq]
  refine .done (hK _ ?_); clear hK K; simp only [thenQ, blockQ]
  refine AW.seq ?_
  refine AW.seq (AW.reg cd14_1 fun K hK => ?_)
  simp only [g14_1, bR, Nat.reduceEqDiff, reduceIte, Int.reduceBNe, Int.reduceBEq]
  try simp only [typR, useR, okR, e_fin, bR, Nat.reduceEqDiff, reduceIte, Int.reduceBNe, Int.reduceBEq]
  refine .flat _ (F47 m) rfl ?_
  try simp only [typR, useR, okR, e_fin, bR, Nat.reduceEqDiff, reduceIte, Int.reduceBNe, Int.reduceBEq]
  refine .flat _ (F45 r) rfl ?_
  try simp only [typR, useR, okR, e_fin, bR, Nat.reduceEqDiff, reduceIte, Int.reduceBNe, Int.reduceBEq]
  refine .flat _ (F45 worn) rfl ?_
  simp only [typR, useR, okR, e_fin, bs3, bR, Nat.reduceEqDiff, reduceIte, Int.reduceBNe, Int.reduceBEq]
  refine .flat _ (F64 _) rfl ?_
  rw [first3 _ _ _ 13 12 12 (by decide) (by decide) (by decide)]
  simp only [bR, Nat.reduceEqDiff, reduceIte, Int.reduceBNe, Int.reduceBEq]
  refine .done (hK _ ?_); clear hK K; simp only [thenQ, blockQ]
  generalize hw : okM m = bw
  generalize hr : okReading r = br
  generalize hwo : okReading worn = bwo
  cases bw
  · refine AW.seq (AW.reg cd14_2 fun K hK => ?_)
    simp only [g14_2, bR, Nat.reduceEqDiff, reduceIte, Int.reduceBNe, Int.reduceBEq]
    refine .done (hK _ ?_); clear hK K; simp only [thenQ, blockQ]
    refine AW.ite ?_
    simp only [condQ, bR, Nat.reduceEqDiff, reduceIte, Int.reduceBNe, Int.reduceBEq]
    refine ⟨fun h => ?_, fun h => ?_⟩
    · refine AW.seq (AW.reg cd14_3 fun K hK => ?_)
      simp only [g14_3, bR, Nat.reduceEqDiff, reduceIte, Int.reduceBNe, Int.reduceBEq]
      refine .done (hK _ ?_); clear hK K; simp only [thenQ, blockQ]
      refine AW.ret ?_
      simp only [blockQ, thenQ, bR, Nat.reduceEqDiff, reduceIte, Int.reduceBNe, Int.reduceBEq]
      simp [lookedOf, hw, nilInt]
    · cases h
  cases br
  · refine AW.seq (AW.reg cd14_2 fun K hK => ?_)
    simp only [g14_2, bR, Nat.reduceEqDiff, reduceIte, Int.reduceBNe, Int.reduceBEq]
    refine .done (hK _ ?_); clear hK K; simp only [thenQ, blockQ]
    refine AW.ite ?_
    simp only [condQ, bR, Nat.reduceEqDiff, reduceIte, Int.reduceBNe, Int.reduceBEq]
    refine ⟨fun h => ?_, fun h => ?_⟩
    · refine AW.seq (AW.reg cd14_3 fun K hK => ?_)
      simp only [g14_3, bR, Nat.reduceEqDiff, reduceIte, Int.reduceBNe, Int.reduceBEq]
      refine .done (hK _ ?_); clear hK K; simp only [thenQ, blockQ]
      refine AW.ret ?_
      simp only [blockQ, thenQ, bR, Nat.reduceEqDiff, reduceIte, Int.reduceBNe, Int.reduceBEq]
      simp [lookedOf, hw, hr, nilInt]
    · cases h
  cases bwo
  · refine AW.seq (AW.reg cd14_2 fun K hK => ?_)
    simp only [g14_2, bR, Nat.reduceEqDiff, reduceIte, Int.reduceBNe, Int.reduceBEq]
    refine .done (hK _ ?_); clear hK K; simp only [thenQ, blockQ]
    refine AW.ite ?_
    simp only [condQ, bR, Nat.reduceEqDiff, reduceIte, Int.reduceBNe, Int.reduceBEq]
    refine ⟨fun h => ?_, fun h => ?_⟩
    · refine AW.seq (AW.reg cd14_3 fun K hK => ?_)
      simp only [g14_3, bR, Nat.reduceEqDiff, reduceIte, Int.reduceBNe, Int.reduceBEq]
      refine .done (hK _ ?_); clear hK K; simp only [thenQ, blockQ]
      refine AW.ret ?_
      simp only [blockQ, thenQ, bR, Nat.reduceEqDiff, reduceIte, Int.reduceBNe, Int.reduceBEq]
      simp [lookedOf, hw, hr, hwo, nilInt]
    · cases h
  refine AW.seq (AW.reg cd14_2 fun K hK => ?_)
  simp only [g14_2, bR, Nat.reduceEqDiff, reduceIte, Int.reduceBNe, Int.reduceBEq]
  refine .done (hK _ ?_); clear hK K; simp only [thenQ, blockQ]
  refine AW.ite ?_
  simp only [condQ, bR, Nat.reduceEqDiff, reduceIte, Int.reduceBNe, Int.reduceBEq]
  refine ⟨fun h => ?_, fun h => ?_⟩
  · cases h
  refine AW.skip ?_; simp only [thenQ, blockQ, reduceIte, Nat.reduceEqDiff]
  refine AW.seq ?_
  refine AW.seq (AW.reg cd14_4 fun K hK => ?_)
  simp only [g14_4, bR, Nat.reduceEqDiff, reduceIte, Int.reduceBNe, Int.reduceBEq]
  try simp only [typR, useR, okR, e_fin, bR, Nat.reduceEqDiff, reduceIte, Int.reduceBNe, Int.reduceBEq]
  refine .flat _ (F71 places) rfl ?_
  generalize hpl : okPlaces places = bp
  cases bp
  · try simp only [typR, useR, okR, e_fin, bR, Nat.reduceEqDiff, reduceIte, Int.reduceBNe, Int.reduceBEq]
    refine .done (hK _ ?_); clear hK K; simp only [thenQ, blockQ]
    refine AW.ite ?_
    simp only [condQ, bR, Nat.reduceEqDiff, reduceIte, Int.reduceBNe, Int.reduceBEq]
    refine ⟨fun h => ?_, fun h => ?_⟩
    · refine AW.seq (AW.reg cd14_5 fun K hK => ?_)
      simp only [g14_5, bR, Nat.reduceEqDiff, reduceIte, Int.reduceBNe, Int.reduceBEq]
      refine .done (hK _ ?_); clear hK K; simp only [thenQ, blockQ]
      refine AW.ret ?_
      simp only [blockQ, thenQ, bR, Nat.reduceEqDiff, reduceIte, Int.reduceBNe, Int.reduceBEq]
      simp [lookedOf, hw, hr, hwo, hpl, nilInt]
    · cases h
  try simp only [typR, useR, okR, e_fin, bR, Nat.reduceEqDiff, reduceIte, Int.reduceBNe, Int.reduceBEq]
  refine .done (hK _ ?_); clear hK K; simp only [thenQ, blockQ]
  refine AW.ite ?_
  simp only [condQ, bR, Nat.reduceEqDiff, reduceIte, Int.reduceBNe, Int.reduceBEq]
  refine ⟨fun h => ?_, fun h => ?_⟩
  · cases h
  refine AW.skip ?_; simp only [thenQ, blockQ, reduceIte, Nat.reduceEqDiff]
  have hpi := okPlaces_in hpl
  have hlen : m.given.length ≤ 1000 := by have := okM_len hw; omega
  have hps : (possG m r).length ≤ 1000 := Nat.le_trans (List.length_filter_le _ _) hlen
  have hpm : ∀ g ∈ possG m r, okMark g.mark = true := fun g hg => okM_mark hw g (possG_mem hg)
  have hld : (lookedG m r worn places).length ≤ 1000 := Nat.le_trans (List.length_filter_le _ _) hps
  have hd : AV.dones [.ref (enc places), .ref (enc m), .ref (enc worn)] = true := by simp only [AV.dones, AV.done, e_closed, Bool.and_self]
  refine AW.seq (AW.reg cd14_6 fun K hK => ?_)
  simp only [g14_6, bR, Nat.reduceEqDiff, reduceIte, Int.reduceBNe, Int.reduceBEq]
  try simp only [typR, useR, okR, e_fin, bR, Nat.reduceEqDiff, reduceIte, Int.reduceBNe, Int.reduceBEq]
  refine .obj false [(7, 27)] [] [enc m, enc r] (possPost 7 m r) rfl (F65 m r (okM_mark hw) hlen) Gvn.nil ⟨.inl ⟨(e_ren _ _).symm, e_only _ _, e_isVal _⟩, .inl ⟨(e_ren _ _).symm, e_only _ _, e_isVal _⟩, trivial⟩ ?_ ?_
  · rintro x os' (⟨_, rfl, rfl⟩ | ⟨k, rfl, rfl⟩)
    · exact Bck.nil (fun _ => rfl) (fun h => by cases h)
    · exact Bck.new1 (fun p => map_only p _) (fun h => by cases h) rfl (fun h => by cases h) rfl (by decide)
  · rintro x os' (⟨hp, rfl, rfl⟩ | ⟨k, rfl, rfl⟩)
    · have hlk : lookedG m r worn places = [] := by simp [lookedG, keep, hp]
      simp only [e_ren, renR, List.nil_append, e_fin, List.all_cons, List.all_nil, AV.isVal, Bool.and_self, e_closed, bR, Nat.reduceEqDiff, reduceIte, Int.reduceBNe, Int.reduceBEq]
      refine .free [7, 4, 6] (enc ([] : List Given)) rfl (F73n 74 [.ref (enc places), .ref (enc m), .ref (enc worn)] hd) ?_ ?_ ?_
      · simp only [keepO, List.filter_cons, List.filter_nil, List.contains_cons, List.contains_nil, Nat.reduceBEq, Bool.or_false, Bool.or_true, Bool.true_or, Bool.false_or, BEq.rfl, e_closed, e_fin, bR, Nat.reduceEqDiff, reduceIte, Int.reduceBNe, Int.reduceBEq]
      · simp [dropO, onlyO, AO.only, e_only]
      · simp only [fgt, dropO, List.filter_cons, List.filter_nil, List.contains_cons, List.contains_nil, Nat.reduceBEq, Bool.or_false, Bool.or_true, Bool.true_or, Bool.false_or, BEq.rfl, e_fin, bR, Nat.reduceEqDiff, reduceIte, Int.reduceBNe, Int.reduceBEq]
        refine .lead _ (F72 [] (by simp)) ?_
        simp only [List.map_nil, bR, Nat.reduceEqDiff, reduceIte, Int.reduceBNe, Int.reduceBEq]
        refine .done (hK _ ?_); clear hK K; simp only [thenQ, blockQ]
        refine AW.ret ?_
        simp only [blockQ, thenQ, bR, Nat.reduceEqDiff, reduceIte, Int.reduceBNe, Int.reduceBEq]
        simp only [e_fin, bR, Nat.reduceEqDiff, reduceIte, Int.reduceBNe, Int.reduceBEq]
        simp [lookedOf, hw, hr, hwo, hpl, hlk]
    · simp only [rowG, renR, rens_map_enc, List.cons_append, List.nil_append, List.all_cons, List.all_nil, AV.isVal, Bool.and_self, bR, Nat.reduceEqDiff, reduceIte, Int.reduceBNe, Int.reduceBEq]
      refine .obj true [(1000000, 27)] (rowG 1000000 (possG m r) k) [.view 1000000 [] 7 0 (possG m r).length, .func 74 [.ref (enc places), .ref (enc m), .ref (enc worn)]] (delPost 1000000 (lookedG m r worn places)) rfl
        (F73 (possG m r) 74 [.ref (enc places), .ref (enc m), .ref (enc worn)] hd (clash m.wear worn places) (fun g hg => F74 m g worn places (hpm g hg) hpi) hps k) ⟨?_, ?_⟩ ⟨.inl ⟨?_, ?_, rfl⟩, .inr ?_, trivial⟩ ?_ ?_
      · intro n x h
        simp only [rowG, lookO] at h
        split at h
        · rename_i hn'
          subst hn'
          simp only [Option.some.injEq] at h
          subst h
          exact ⟨by simp only [renR, rens_map_enc, bR, Nat.reduceEqDiff, reduceIte, Int.reduceBNe, Int.reduceBEq], map_only _ _, rfl⟩
        · cases h
      · intro a b ha hb _
        rw [isIn_one.1 ha, isIn_one.1 hb]
      · simp only [renR, bR, Nat.reduceEqDiff, reduceIte, Int.reduceBNe, Int.reduceBEq]
      · exact isIn_one.2 rfl
      · simp only [names, rowG, rnm, dropO, List.filter_cons, List.filter_nil, List.map_cons, List.map_nil, List.contains_cons, List.contains_nil, Nat.reduceBEq, Bool.or_false, Bool.or_true, Bool.true_or, Bool.false_or, BEq.rfl, e_closed, e_fin, bR, Nat.reduceEqDiff, reduceIte, Int.reduceBNe, Int.reduceBEq]
      · rintro x os' ⟨k', rfl, rfl⟩
        exact Bck.one (fun p => map_only p _) (fun _ => map_lean _) (isIn_one.2 rfl) (fun _ => rfl)
      · rintro x os' ⟨k', rfl, rfl⟩
        simp only [rowG, renR, rens_map_enc, List.cons_append, List.nil_append, bR, Nat.reduceEqDiff, reduceIte, Int.reduceBNe, Int.reduceBEq]
        refine .free [27] _ rfl (F72 (lookedG m r worn places) hld) ?_ ?_ ?_
        · simp only [keepO, List.filter_cons, List.filter_nil, List.contains_cons, List.contains_nil, Nat.reduceBEq, Bool.or_false, Bool.or_true, Bool.true_or, Bool.false_or, BEq.rfl, finV_take (α := Given) (sz := 7) rfl, take_row, bR, Nat.reduceEqDiff, reduceIte, Int.reduceBNe, Int.reduceBEq]
        · simp [dropO, onlyO, AO.only, e_only]
        · simp only [fgt, dropO, List.filter_cons, List.filter_nil, List.contains_cons, List.contains_nil, Nat.reduceBEq, Bool.or_false, Bool.or_true, Bool.true_or, Bool.false_or, BEq.rfl, AV.only, e_only, bR, Nat.reduceEqDiff, reduceIte, Int.reduceBNe, Int.reduceBEq]
          refine .done (hK _ ?_); clear hK K; simp only [thenQ, blockQ]
          refine AW.ret ?_
          simp only [blockQ, thenQ, bR, Nat.reduceEqDiff, reduceIte, Int.reduceBNe, Int.reduceBEq]
          simp only [e_fin, bR, Nat.reduceEqDiff, reduceIte, Int.reduceBNe, Int.reduceBEq]
          simp [lookedOf, hw, hr, hwo, hpl]
end Go.Proofs.Ytkjkbpgdpnapfaa

/-
  FUNCTIONS OF mark BY CONTRACT: Worn.
-/
namespace Go.Proofs.Ytkjkbpgdpnapfaa
open Go Go.Abs
open Go.Abs.Enc (enc)
theorem members_mem {w : Int} {k : Nat} (h : bit w k = true) : ∀ n, k < n → (k : Int) ∈ members w n
  | 0, h => absurd h (by omega)
  | n + 1, hk => by
    simp only [members, List.mem_append]
    rcases Nat.lt_or_ge k n with h1 | h1
    · exact .inl (members_mem h n h1)
    · have : k = n := by omega
      subst this
      right; simp [h]
theorem members_in {w : Int} : ∀ n, ∀ x ∈ members w n, 0 ≤ x ∧ x < n
  | 0 => by simp [members]
  | n + 1 => by
    intro x hx
    simp only [members, List.mem_append] at hx
    rcases hx with hx | hx
    · have := members_in n x hx; omega
    · split at hx
      · simp only [List.mem_singleton] at hx; omega
      · cases hx
theorem okWear_at {w : Arr 5 Int} (h : okWear w = true) {k : Nat} (hk : k < 5) : (0 ≤ w.g k ∧ w.g k ≤ 31) ∧ bit (w.g k) k = true := by
  simp only [okWear, List.all_eq_true, List.mem_range, Bool.and_eq_true] at h
  have := h k hk
  simp only [inR, Bool.and_eq_true, decide_eq_true_eq] at this
  exact this
/-- The place of the sign that a cut chooses. -/
def cutAt (cuts : List Int) (i n : Nat) : Nat := if 0 < cuts.length then (((cuts.getD (i % cuts.length) 0).tmod n + n).tmod n).toNat else 0
def signs (w : Arr 5 Int) (a : Arr 6 Int) (i : Nat) : List Int := members (w.g (a.g i).toNat) 5
def wornV (w : Arr 5 Int) (a : Arr 6 Int) (cuts : List Int) (i : Nat) : Int := shl 1 ((signs w a i).getD (cutAt cuts i (signs w a i).length) 0).toNat
def wornUp (w : Arr 5 Int) (a : Arr 6 Int) (cuts : List Int) : Nat → Arr 6 Int
  | 0 => zero6
  | i + 1 => upd (wornUp w a cuts i) i (wornV w a cuts i)
def wornR (w : Arr 5 Int) (a : Arr 6 Int) (cuts : List Int) : Arr 6 Int × Int := if okWear w then (if okMark a then (wornUp w a cuts 6, 0) else (zero6, 10)) else (zero6, 11)
theorem cutAt_lt (cuts : List Int) (i : Nat) {n : Nat} (hn : 0 < n) : cutAt cuts i n < n := by
  unfold cutAt
  split
  · have h1 : -(n : Int) < (cuts.getD (i % cuts.length) 0).tmod n := by
      have := Int.tmod_lt_of_pos (-(cuts.getD (i % cuts.length) 0)) (show (0 : Int) < n by omega)
      rw [Int.neg_tmod] at this; omega
    have h2 := Int.tmod_lt_of_pos ((cuts.getD (i % cuts.length) 0).tmod n + n) (show (0 : Int) < n by omega)
    have h3 : 0 ≤ ((cuts.getD (i % cuts.length) 0).tmod n + n).tmod n := Int.tmod_nonneg _ (by omega)
    omega
  · exact hn
theorem F19 (w : Arr 5 Int) (a : Arr 6 Int) (cuts : List Int) : Ctr Try.prog 19 [enc w, enc a, enc cuts] (.tuple [enc (wornR w a cuts).1, enc (wornR w a cuts).2]) := by
  refine Ctr.mk' Try.func19 ca19 cc19 cr19 (Nat.le_of_ble_eq_true rfl) (fun hwf W0 D0 E1 => ?_)
  simp only [c19, r19, idx, Nat.zero_add, Nat.reduceAdd]
  have hlen : cuts.length ≤ maxLen := ((wf_list cuts).1 hwf.2.2.1).1
  simp only [maxLen] at hlen
  refine AW.seq (AW.reg cd19_0 fun K hK => ?_)
  simp only [g19_0, bR, Nat.reduceEqDiff, reduceIte, Int.reduceBNe, Int.reduceBEq]
  simp only [e_isVal, e_zero6, bR, Nat.reduceEqDiff, reduceIte, Int.reduceBNe, Int.reduceBEq]
  refine .done (hK _ ?_); clear hK K; simp only [thenQ, blockQ]
  refine AW.seq ?_
  refine AW.seq (AW.reg cd19_1 fun K hK => ?_)
  simp only [g19_1, bR, Nat.reduceEqDiff, reduceIte, Int.reduceBNe, Int.reduceBEq]
  try simp only [typR, useR, okR, e_fin, bR, Nat.reduceEqDiff, reduceIte, Int.reduceBNe, Int.reduceBEq]
  refine .flat _ (F43 w) rfl ?_
  try simp only [typR, useR, okR, e_fin, bR, Nat.reduceEqDiff, reduceIte, Int.reduceBNe, Int.reduceBEq]
  refine .flat _ (F41 a) rfl ?_
  simp only [typR, useR, okR, e_fin, bs2, bR, Nat.reduceEqDiff, reduceIte, Int.reduceBNe, Int.reduceBEq]
  refine .flat _ (F64 _) rfl ?_
  rw [first2 _ _ 11 10 (by decide) (by decide)]
  simp only [bR, Nat.reduceEqDiff, reduceIte, Int.reduceBNe, Int.reduceBEq]
  refine .done (hK _ ?_); clear hK K; simp only [thenQ, blockQ]
  generalize hw : okWear w = bw
  generalize ha : okMark a = ba
  cases bw
  · refine AW.seq (AW.reg cd19_2 fun K hK => ?_)
    simp only [g19_2, bR, Nat.reduceEqDiff, reduceIte, Int.reduceBNe, Int.reduceBEq]
    refine .done (hK _ ?_); clear hK K; simp only [thenQ, blockQ]
    refine AW.ite ?_
    simp only [condQ, bR, Nat.reduceEqDiff, reduceIte, Int.reduceBNe, Int.reduceBEq]
    refine ⟨fun h => ?_, fun h => ?_⟩
    · refine AW.seq (AW.reg cd19_3 fun K hK => ?_)
      simp only [g19_3, bR, Nat.reduceEqDiff, reduceIte, Int.reduceBNe, Int.reduceBEq]
      simp only [setParts, e_zero6, stR3_6, bR, Nat.reduceEqDiff, reduceIte, Int.reduceBNe, Int.reduceBEq]
      refine .done (hK _ ?_); clear hK K; simp only [thenQ, blockQ]
      refine AW.ret ?_
      simp only [blockQ, thenQ, bR, Nat.reduceEqDiff, reduceIte, Int.reduceBNe, Int.reduceBEq]
      simp only [typR, e_fin, bR, Nat.reduceEqDiff, reduceIte, Int.reduceBNe, Int.reduceBEq]
      simp [wornR, hw, e_int]
    · cases h
  cases ba
  · refine AW.seq (AW.reg cd19_2 fun K hK => ?_)
    simp only [g19_2, bR, Nat.reduceEqDiff, reduceIte, Int.reduceBNe, Int.reduceBEq]
    refine .done (hK _ ?_); clear hK K; simp only [thenQ, blockQ]
    refine AW.ite ?_
    simp only [condQ, bR, Nat.reduceEqDiff, reduceIte, Int.reduceBNe, Int.reduceBEq]
    refine ⟨fun h => ?_, fun h => ?_⟩
    · refine AW.seq (AW.reg cd19_3 fun K hK => ?_)
      simp only [g19_3, bR, Nat.reduceEqDiff, reduceIte, Int.reduceBNe, Int.reduceBEq]
      simp only [setParts, e_zero6, stR3_6, bR, Nat.reduceEqDiff, reduceIte, Int.reduceBNe, Int.reduceBEq]
      refine .done (hK _ ?_); clear hK K; simp only [thenQ, blockQ]
      refine AW.ret ?_
      simp only [blockQ, thenQ, bR, Nat.reduceEqDiff, reduceIte, Int.reduceBNe, Int.reduceBEq]
      simp only [typR, e_fin, bR, Nat.reduceEqDiff, reduceIte, Int.reduceBNe, Int.reduceBEq]
      simp [wornR, hw, ha, e_int]
    · cases h
  refine AW.seq (AW.reg cd19_2 fun K hK => ?_)
  simp only [g19_2, bR, Nat.reduceEqDiff, reduceIte, Int.reduceBNe, Int.reduceBEq]
  refine .done (hK _ ?_); clear hK K; simp only [thenQ, blockQ]
  refine AW.ite ?_
  simp only [condQ, bR, Nat.reduceEqDiff, reduceIte, Int.reduceBNe, Int.reduceBEq]
  refine ⟨fun h => ?_, fun h => ?_⟩
  · cases h
  refine AW.skip ?_; simp only [thenQ, blockQ, reduceIte, Nat.reduceEqDiff]
  refine AW.seq (AW.reg cd19_4 fun K hK => ?_)
  simp only [g19_4, bR, Nat.reduceEqDiff, reduceIte, Int.reduceBNe, Int.reduceBEq]
  refine .done (hK _ ?_); clear hK K; simp only [thenQ, blockQ]
  refine AW.seq ?_
  refine AW.seq (AW.reg cd19_5 fun K hK => ?_)
  simp only [g19_5, bR, Nat.reduceEqDiff, reduceIte, Int.reduceBNe, Int.reduceBEq]
  refine .done (hK _ ?_); clear hK K; simp only [thenQ, blockQ]
  refine AW.block (AW.loop (fun i : Nat => mkA [(2, enc cuts), (3, .ptr 3 []), (4, .ptr 4 []), (6, .ptr 6 []), (9, .ptr 9 []), (23, .int .i64 i)] [(3, .box (enc w)), (4, .box (enc a)), (6, .box (enc zero6)), (9, .box (enc (wornUp w a cuts i)))]) (fun i => i ≤ 6) (fun i => 6 - i) 0 (by omega) ?_ (fun i hi => ?_))
  · simp only [e_zero6, wornUp]
    refine Sub.of_lists ?_ ?_ ?_ ?_ <;> simp [subT, subO, onlyT, onlyO, isIn, look_cons, lookO_cons, lookO_nil, AV.only, AV.onlys, AO.only, onlys_map, onlys_append, e_only, e_int, e_bool]
  refine AW.seq (AW.reg cd19_6 fun K hK => ?_)
  simp only [g19_6, bR, Nat.reduceEqDiff, reduceIte, Int.reduceBNe, Int.reduceBEq]
  refine .done (hK _ ?_); clear hK K; simp only [thenQ, blockQ]
  refine AW.seq ?_
  refine AW.ite ?_
  simp only [condQ, bR, Nat.reduceEqDiff, reduceIte, Int.reduceBNe, Int.reduceBEq]
  refine ⟨fun h => ?_, fun h => ?_⟩
  · have hi6 : i < 6 := by simp at h; omega
    refine AW.skip ?_; simp only [thenQ, blockQ, reduceIte, Nat.reduceEqDiff]
    refine AW.seq (AW.block ?_)
    refine AW.seq (AW.reg cd19_7 fun K hK => ?_)
    simp only [g19_7, bR, Nat.reduceEqDiff, reduceIte, Int.reduceBNe, Int.reduceBEq]
    refine .done (hK _ ?_); clear hK K; simp only [thenQ, blockQ]
    refine AW.seq (AW.reg cd19_8 fun K hK => ?_)
    simp only [g19_8, bR, Nat.reduceEqDiff, reduceIte, Int.reduceBNe, Int.reduceBEq]
    try simp only [typR, useR, okR, e_fin, bR, Nat.reduceEqDiff, reduceIte, Int.reduceBNe, Int.reduceBEq]
    have h1 := okMark_at ha hi6
    have h2 := okWear_at hw (show (a.g i).toNat < 5 by omega)
    refine .flat _ (F77 w a i hi6 h1.1 h1.2) rfl ?_
    try simp only [typR, useR, okR, e_fin, bR, Nat.reduceEqDiff, reduceIte, Int.reduceBNe, Int.reduceBEq]
    refine .lead _ (F81 (w.g (a.g i).toNat) h2.1.1 h2.1.2) ?_
    try simp only [typR, useR, okR, e_fin, bR, Nat.reduceEqDiff, reduceIte, Int.reduceBNe, Int.reduceBEq]
    refine .done (hK _ ?_); clear hK K; simp only [thenQ, blockQ]
    have hL : signs w a i = members (w.g (a.g i).toNat) 5 := rfl
    rw [← hL]
    have hL5 : (signs w a i).length ≤ 5 := members_le _ 5
    have hL0 : 0 < (signs w a i).length := List.length_pos_of_mem (members_mem h2.2 5 (by omega))
    have hLn : ¬ ((signs w a i).length : Int) = 0 := by omega
    have hLi : ∀ x ∈ signs w a i, 0 ≤ x ∧ x < (5 : Nat) := members_in 5
    have hV : wornV w a cuts i = shl 1 ((signs w a i).getD (cutAt cuts i (signs w a i).length) 0).toNat := rfl
    have hcl := cutAt_lt cuts i hL0
    generalize hLL : signs w a i = L at hL5 hL0 hLn hLi hV hcl ⊢
    refine AW.seq (AW.reg cd19_9 fun K hK => ?_)
    simp only [g19_9, bR, Nat.reduceEqDiff, reduceIte, Int.reduceBNe, Int.reduceBEq]
    refine .done (hK _ ?_); clear hK K; simp only [thenQ, blockQ]
    refine AW.seq ?_
    refine AW.via (mkA [(2, enc cuts), (3, .ptr 3 []), (4, .ptr 4 []), (6, .ptr 6 []), (9, .ptr 9 []), (10, .int .i64 i), (11, enc L), (12, .int .i64 (cutAt cuts i L.length)), (23, .int .i64 i)] [(3, .box (enc w)), (4, .box (enc a)), (6, .box (enc zero6)), (9, .box (enc (wornUp w a cuts i)))]) ?_ fun B hB => ?_
    · refine AW.seq (AW.reg cd19_10 fun K hK => ?_)
      simp only [g19_10, bR, Nat.reduceEqDiff, reduceIte, Int.reduceBNe, Int.reduceBEq]
      try simp only [typR, useR, okR, e_fin, bR, Nat.reduceEqDiff, reduceIte, Int.reduceBNe, Int.reduceBEq]
      refine .done (hK _ ?_); clear hK K; simp only [thenQ, blockQ]
      refine AW.ite ?_
      simp only [condQ, bR, Nat.reduceEqDiff, reduceIte, Int.reduceBNe, Int.reduceBEq]
      refine ⟨fun h => ?_, fun h => ?_⟩
      · have hcp : 0 < cuts.length := by simpa using h
        have hcn : ¬ (cuts.length : Int) = 0 := by omega
        have hm : (i : Int).tmod cuts.length = ((i % cuts.length : Nat) : Int) := Int.ofNat_tmod i cuts.length
        have hml : i % cuts.length < cuts.length := Nat.mod_lt _ hcp
        refine AW.reg cd19_11 fun K hK => ?_
        simp only [g19_11, bR, Nat.reduceEqDiff, reduceIte, Int.reduceBNe, Int.reduceBEq]
        simp only [hcn, hm, isE_getD hml, hLn, typR, useR, okR, bR, Nat.reduceEqDiff, reduceIte, Int.reduceBNe, Int.reduceBEq]
        refine .done (hK _ ?_); clear hK K; simp only [thenQ, blockQ]
        generalize hx : cuts.getD (i % cuts.length) 0 = x
        have b1 := Int.tmod_lt_of_pos x (show (0 : Int) < L.length by omega)
        have b2 : -(L.length : Int) < x.tmod L.length := by
          have := Int.tmod_lt_of_pos (-x) (show (0 : Int) < L.length by omega)
          rw [Int.neg_tmod] at this; omega
        have b3 : 0 ≤ (x.tmod L.length + L.length).tmod L.length := Int.tmod_nonneg _ (by omega)
        have hcut : ((cutAt cuts i L.length : Nat) : Int) = (x.tmod L.length + L.length).tmod L.length := by
          simp only [cutAt, if_pos hcp, hx]; omega
        rw [wrap_id _ (by omega) (by omega), ← hcut]
        refine Sub.of_lists ?_ ?_ ?_ ?_ <;> simp [subT, subO, onlyT, onlyO, isIn, look_cons, lookO_cons, lookO_nil, AV.only, AV.onlys, AO.only, onlys_map, onlys_append, e_only, e_int, e_bool]
      · have hcp : cuts.length = 0 := by simpa using h
        refine AW.skip ?_; simp only [thenQ, blockQ, reduceIte, Nat.reduceEqDiff]
        have : cutAt cuts i L.length = 0 := by simp [cutAt, hcp]
        rw [this]
        refine Sub.of_lists ?_ ?_ ?_ ?_ <;> simp [subT, subO, onlyT, onlyO, isIn, look_cons, lookO_cons, lookO_nil, AV.only, AV.onlys, AO.only, onlys_map, onlys_append, e_only, e_int, e_bool]
    simp only [thenQ, blockQ]
    refine AW.sub hB ?_
    have hin := hLi (L.getD (cutAt cuts i L.length) 0) (by rw [List.getD_eq_getElem?_getD, List.getElem?_eq_getElem hcl]; exact List.getElem_mem hcl)
    refine AW.reg cd19_12 fun K hK => ?_
    simp only [g19_12, bR, Nat.reduceEqDiff, reduceIte, Int.reduceBNe, Int.reduceBEq]
    simp only [isE_getD hcl, typR, useR, okR, bR, Nat.reduceEqDiff, reduceIte, Int.reduceBNe, Int.reduceBEq]
    have hsh : IntKind.i64.wrap (1 * 2 ^ min (L.getD (cutAt cuts i L.length) 0).toNat IntKind.i64.bits) = wornV w a cuts i := hV.symm
    rw [if_pos hin.1, hsh]
    simp only [typR, useR, okR, inB_nat 1 (wornUp w a cuts i) hi6 rfl, atL_g (wornUp w a cuts i) hi6, get_g (wornUp w a cuts i) hi6, stR3_g (wornUp w a cuts i) hi6, bR, Nat.reduceEqDiff, reduceIte, Int.reduceBNe, Int.reduceBEq]
    refine .done (hK _ ?_); clear hK K; simp only [thenQ, blockQ]
    refine AW.reg cd19_13 fun K hK => ?_
    simp only [g19_13, bR, Nat.reduceEqDiff, reduceIte, Int.reduceBNe, Int.reduceBEq]
    refine .done (hK _ ?_); clear hK K; simp only [thenQ, blockQ]
    refine ⟨i + 1, by omega, by omega, ?_⟩
    rw [wrap_id _ (by omega) (by omega), wornUp]
    refine Sub.of_lists ?_ ?_ ?_ ?_ <;> simp [subT, subO, onlyT, onlyO, isIn, look_cons, lookO_cons, lookO_nil, AV.only, AV.onlys, AO.only, onlys_map, onlys_append, e_only, e_int, e_bool]
  · have h6 : i = 6 := by simp at h; omega
    subst h6
    refine AW.exit ?_; simp only [thenQ, blockQ, reduceIte, Nat.reduceEqDiff]
    refine AW.seq (AW.reg cd19_14 fun K hK => ?_)
    simp only [g19_14, bR, Nat.reduceEqDiff, reduceIte, Int.reduceBNe, Int.reduceBEq]
    simp only [typR, stR3_6, bR, Nat.reduceEqDiff, reduceIte, Int.reduceBNe, Int.reduceBEq]
    refine .done (hK _ ?_); clear hK K; simp only [thenQ, blockQ]
    refine AW.ret ?_
    simp only [blockQ, thenQ, bR, Nat.reduceEqDiff, reduceIte, Int.reduceBNe, Int.reduceBEq]
    simp only [typR, e_fin, bR, Nat.reduceEqDiff, reduceIte, Int.reduceBNe, Int.reduceBEq]
    simp [wornR, hw, ha, e_int]
end Go.Proofs.Ytkjkbpgdpnapfaa

/-
  FUNCTIONS OF mark BY CONTRACT: Meet.
-/
namespace Go.Proofs.Ytkjkbpgdpnapfaa
open Go Go.Abs
open Go.Abs.Enc (enc)
def one (l : List Int) : Int := shl 1 (l.getD 0 0).toNat
end Go.Proofs.Ytkjkbpgdpnapfaa

/-
  FUNCTIONS OF THE REFERENCE BY CONTRACT: Wears.
-/
namespace Go.Proofs.Ytkjkbpgdpnapfaa
open Go Go.Abs
open Go.Abs.Enc (enc)
def zero5 : Arr 5 Int := ⟨List.replicate 5 0, rfl⟩
def bor (a b : Int) : Int := IntKind.i64.wrap ((BitVec.ofInt IntKind.i64.bits a ||| BitVec.ofInt IntKind.i64.bits b).toNat : Int)
def wearAt (c : List Int) (k : Nat) (x : Arr 5 Int) : Arr 5 Int :=
  if at' c k % 12 < 5 then upd (upd x k (shl 1 k)) k (bor ((upd x k (shl 1 k)).g k) (shl 1 (at' c k % 12).toNat)) else upd x k (shl 1 k)
def wears (c : List Int) : Nat → Arr 5 Int
  | 0 => zero5
  | k + 1 => wearAt c k (wears c k)
end Go.Proofs.Ytkjkbpgdpnapfaa

/-
  FUNCTIONS OF THE REFERENCE BY CONTRACT: MeetError, Meets.
-/
namespace Go.Proofs.Ytkjkbpgdpnapfaa
open Go Go.Abs
open Go.Abs.Enc (enc)
structure Pair where
  a : Arr 6 Int
  b : Arr 6 Int
instance : Enc Pair where
  enc p := .agg [enc p.a, enc p.b]
  sz := 12
  sh := .many [.many (List.replicate 6 .one), .many (List.replicate 6 .one)]
  isA := true
  done p := by simp only [AV.done, AV.dones, Enc.done, Bool.and_self]
  size p := by simp only [AV.size, AV.sizes, e_size, e_szArr, e_szInt]
  shp p := by simp only [AV.sh, AV.shs, e_sh, e_shArr, e_shInt]
  agg _ := rfl
end Go.Proofs.Ytkjkbpgdpnapfaa

/-
  WHAT Meet RETURNS IS DUE (in plain data), and the law MarkCosts by contract.
-/
namespace Go.Proofs.Ytkjkbpgdpnapfaa
open Go Go.Abs
open Go.Abs.Enc (enc)
end Go.Proofs.Ytkjkbpgdpnapfaa

/-
  WHAT NUMBERS DESCRIBE IS IN ORDER (in plain data): wear, marks, single signs.
-/
namespace Go.Proofs.Ytkjkbpgdpnapfaa
open Go Go.Abs
open Go.Abs.Enc (enc)
end Go.Proofs.Ytkjkbpgdpnapfaa

/-
  THE BOOK THAT NUMBERS DESCRIBE (in plain data): it is in order.
-/
namespace Go.Proofs.Ytkjkbpgdpnapfaa
open Go Go.Abs
open Go.Abs.Enc (enc)
theorem okAt_iff {m : Marks} {i : Nat} : okAt m i = true ↔ (1 ≤ (gv m i).owner ∧ (gv m i).owner ≤ 99) ∧ okMark (gv m i).mark = true ∧ (i = 0 ∨ (gv m (i - 1)).owner < (gv m i).owner) ∧ ∀ j, j < i → tooNear m (gv m j).mark (gv m i).mark = false := by
  simp only [okAt, inR, Bool.and_eq_true, Bool.or_eq_true, decide_eq_true_eq, beq_iff_eq, List.all_eq_true, List.mem_range, Bool.not_eq_true']
def madeG (c : List Int) (i : Nat) (o : Int) : Given := ⟨o, digits (IntKind.i64.wrap (IntKind.i64.wrap (c.getD i 0 * 7) + i * 2503) % 15625) 6⟩
def madeStep (c : List Int) (i : Nat) (p : Int × List Given) : Int × List Given :=
  (p.1 + (1 + c.getD i 0 % 4), if p.2.any (fun h => tooNear ⟨wears c 5, at' c 5 % 2, p.2⟩ h.mark (madeG c i 0).mark) then p.2 else p.2 ++ [madeG c i (p.1 + (1 + c.getD i 0 % 4))])
def madeUp (c : List Int) : Nat → Int × List Given
  | 0 => (0, [])
  | i + 1 => if i < c.length ∧ (madeUp c i).2.length < 9 then madeStep c i (madeUp c i) else madeUp c i
def madeM (c : List Int) (n : Nat) : Marks := ⟨wears c 5, at' c 5 % 2, (madeUp c n).2⟩
/-- The book that numbers describe. -/
def made (c : List Int) : Marks := madeM c 12
end Go.Proofs.Ytkjkbpgdpnapfaa

/-
  FUNCTIONS OF THE REFERENCE BY CONTRACT: settles.
-/
namespace Go.Proofs.Ytkjkbpgdpnapfaa
open Go Go.Abs
open Go.Abs.Enc (enc)
theorem okM_at {m : Marks} (h : okM m = true) {i : Nat} (hi : i < m.given.length) : okAt m i = true := by
  simp only [okM, Bool.and_eq_true, decide_eq_true_eq, List.all_eq_true, List.mem_range] at h
  exact h.2.2.2 i hi
theorem okM_rise {m : Marks} (h : okM m = true) : ∀ j i, i < j → j < m.given.length → (gv m i).owner < (gv m j).owner
  | 0, _, hi, _ => absurd hi (by omega)
  | j + 1, i, hi, hj => by
    have h1 := (okAt_iff.1 (okM_at h hj)).2.2.1
    have h2 : (gv m j).owner < (gv m (j + 1)).owner := by
      rcases h1 with h1 | h1
      · omega
      · exact h1
    by_cases e : i = j
    · subst e; exact h2
    · have := okM_rise h j i (by omega) (by omega); omega
theorem indexOf_owner {m : Marks} (h : okM m = true) {g : Given} (hg : g ∈ m.given) : ∃ i, i < m.given.length ∧ indexOf m.given g.owner = (i : Int) ∧ gv m i = g := by
  obtain ⟨k, hk, rfl⟩ := List.getElem_of_mem hg
  refine ⟨k, hk, ?_, (gv_eq hk).symm⟩
  have : m.given.findIdx? (fun x => x.owner == m.given[k].owner) = some k := findIdx?_some_at hk (fun x hx => by
    obtain ⟨i, hi, rfl⟩ := List.getElem_of_mem hx
    rw [List.length_take] at hi
    rw [List.getElem_take, gv_eq (show i < m.given.length by omega), gv_eq hk]
    have := okM_rise h k i (by omega) hk
    simp; omega) (by simp)
  simp only [indexOf, this]
theorem any_take_succ {α : Type} (p : α → Bool) (l : List α) (d : α) {j : Nat} (h : j < l.length) : (l.take (j + 1)).any p = ((l.take j).any p || p (l.getD j d)) := by
  rw [List.take_succ_eq_append_getElem h, List.any_append]
  simp [List.getD_eq_getElem?_getD, h]
theorem gl_map {l : List Given} {i : Nat} (h : i < l.length) : (l.map (·.owner)).getD i 0 = (gl l i).owner := by
  simp [gl, List.getD_eq_getElem?_getD, h]
theorem places_at {places : List Int} (hp : ∀ k ∈ places, 0 ≤ k ∧ k < 6) {j : Nat} (h : j < places.length) : 0 ≤ places.getD j 0 ∧ places.getD j 0 < 6 :=
  hp _ (by rw [List.getD_eq_getElem?_getD, List.getElem?_eq_getElem h]; exact List.getElem_mem h)
theorem at_wear (m : Marks) (k : Nat) : (enc m : AV).at ([0] ++ [k]) = (enc m.wear : AV).at [k] := rfl
theorem F69 (m : Marks) (r : Arr 6 Int) (places : List Int) (hm : okM m = true) (hp : ∀ k ∈ places, 0 ≤ k ∧ k < 6) : Ctr Try.prog 69 [enc m, enc r, enc places] (enc (settled m.wear (possG m r) places)) := by
  refine Ctr.mk' Try.func69 ca69 cc69 cr69 (Nat.le_of_ble_eq_true rfl) (fun hwf W0 D0 E1 => ?_)
  simp only [c69, r69, idx, Nat.zero_add, Nat.reduceAdd]
  have hpl : places.length ≤ maxLen := ((wf_list places).1 hwf.2.2.1).1
  simp only [maxLen] at hpl
  refine AW.seq (AW.reg cd69_0 fun K hK => ?_)
  simp only [g69_0, bR, Nat.reduceEqDiff, reduceIte, Int.reduceBNe, Int.reduceBEq]
  simp only [e_isVal, bR, Nat.reduceEqDiff, reduceIte, Int.reduceBNe, Int.reduceBEq]
  refine .done (hK _ ?_); clear hK K; simp only [thenQ, blockQ]
  refine AW.seq (AW.reg cd69_1 fun K hK => ?_)
  simp only [g69_1, bR, Nat.reduceEqDiff, reduceIte, Int.reduceBNe, Int.reduceBEq]
  try simp only [typR, useR, okR, e_fin, bR, Nat.reduceEqDiff, reduceIte, Int.reduceBNe, Int.reduceBEq]
  refine .lead _ (F84 m r (okM_book hm)) ?_
  rw [← possG_owners]
  try simp only [typR, useR, okR, e_fin, bR, Nat.reduceEqDiff, reduceIte, Int.reduceBNe, Int.reduceBEq]
  refine .done (hK _ ?_); clear hK K; simp only [thenQ, blockQ]
  have hlen := okM_len hm
  have hposs : ∀ g ∈ possG m r, g ∈ m.given := fun g hg => possG_mem hg
  have hLl : (possG m r).length ≤ m.given.length := List.length_filter_le _ _
  generalize possG m r = L at hposs hLl ⊢
  have hok : ∀ i, i < L.length → okMark (gl L i).mark = true := fun i hi => by rw [← gl_eq hi]; exact okM_mark hm _ (hposs _ (List.getElem_mem hi))
  have hidx : ∀ i, i < L.length → ∃ k, k < m.given.length ∧ indexOf m.given (gl L i).owner = (k : Int) ∧ gv m k = gl L i := fun i hi => indexOf_owner hm (by rw [← gl_eq hi]; exact hposs _ (List.getElem_mem hi))
  refine AW.seq (AW.seq ?_)
  refine AW.reg cd69_2 fun K hK => ?_
  simp only [g69_2, bR, Nat.reduceEqDiff, reduceIte, Int.reduceBNe, Int.reduceBEq]
  refine .done (hK _ ?_); clear hK K; simp only [thenQ, blockQ]
  refine AW.block (AW.loop (fun i : Nat => mkA [(2, enc places), (3, .ptr 3 []), (7, enc (L.map (·.owner))), (8, .int .i64 i)] [(3, .box (enc m))]) (fun i => i ≤ L.length ∧ ∀ j, j < i → settledAt m.wear L places j = true) (fun i => L.length - i) 0 ⟨by omega, fun k h => by omega⟩ ?_ (fun i hi => ?_))
  · refine Sub.of_lists ?_ ?_ ?_ ?_ <;> simp [subT, subO, onlyT, onlyO, isIn, look_cons, lookO_cons, lookO_nil, AV.only, AV.onlys, AO.only, onlys_map, onlys_append, e_only, e_int, e_bool]
  refine AW.seq (AW.seq ?_)
  refine AW.reg cd69_3 fun K hK => ?_
  simp only [g69_3, bR, Nat.reduceEqDiff, reduceIte, Int.reduceBNe, Int.reduceBEq]
  simp only [typR, useR, okR, e_fin, List.length_map, bR, Nat.reduceEqDiff, reduceIte, Int.reduceBNe, Int.reduceBEq]
  refine .done (hK _ ?_); clear hK K; simp only [thenQ, blockQ]
  refine AW.ite ?_
  simp only [condQ, bR, Nat.reduceEqDiff, reduceIte, Int.reduceBNe, Int.reduceBEq]
  refine ⟨fun h => ?_, fun h => ?_⟩
  case refine_2.refine_2 =>
    have hge : i = L.length := by simp at h; omega
    subst hge
    refine AW.exit ?_; simp only [thenQ, blockQ, reduceIte, Nat.reduceEqDiff]
    refine AW.seq (AW.reg cd69_17 fun K hK => ?_)
    simp only [g69_17, bR, Nat.reduceEqDiff, reduceIte, Int.reduceBNe, Int.reduceBEq]
    refine .done (hK _ ?_); clear hK K; simp only [thenQ, blockQ]
    refine AW.ret ?_
    simp only [blockQ, thenQ, bR, Nat.reduceEqDiff, reduceIte, Int.reduceBNe, Int.reduceBEq]
    rw [settled, all_true hi.2]
  have hlt : i < L.length := by simpa using h
  have bad : settledAt m.wear L places i = false → settled m.wear L places = false := fun h => all_false i hlt h
  obtain ⟨ki, hki, hii, hgi⟩ := hidx i hlt
  refine AW.skip ?_; simp only [thenQ, blockQ, reduceIte, Nat.reduceEqDiff]
  refine AW.seq (AW.block ?_)
  refine AW.seq (AW.reg cd69_4 fun K hK => ?_)
  simp only [g69_4, bR, Nat.reduceEqDiff, reduceIte, Int.reduceBNe, Int.reduceBEq]
  refine .done (hK _ ?_); clear hK K; simp only [thenQ, blockQ]
  refine AW.block (AW.loop (fun j : Nat => mkA [(2, enc places), (3, .ptr 3 []), (7, enc (L.map (·.owner))), (8, .int .i64 i), (9, .int .i64 j)] [(3, .box (enc m))]) (fun j => j ≤ i ∧ ∀ k, k < j → apartIn m.wear places (gl L i) (gl L k) = true) (fun j => i - j) 0 ⟨by omega, fun k h => by omega⟩ ?_ (fun j hj => ?_))
  · refine Sub.of_lists ?_ ?_ ?_ ?_ <;> simp [subT, subO, onlyT, onlyO, isIn, look_cons, lookO_cons, lookO_nil, AV.only, AV.onlys, AO.only, onlys_map, onlys_append, e_only, e_int, e_bool]
  refine AW.seq (AW.seq ?_)
  refine AW.reg cd69_5 fun K hK => ?_
  simp only [g69_5, bR, Nat.reduceEqDiff, reduceIte, Int.reduceBNe, Int.reduceBEq]
  refine .done (hK _ ?_); clear hK K; simp only [thenQ, blockQ]
  refine AW.ite ?_
  simp only [condQ, bR, Nat.reduceEqDiff, reduceIte, Int.reduceBNe, Int.reduceBEq]
  refine ⟨fun h => ?_, fun h => ?_⟩
  case refine_2.refine_2 =>
    have hge : j = i := by simp at h; omega
    subst hge
    refine AW.exit ?_; simp only [thenQ, blockQ, reduceIte, Nat.reduceEqDiff]
    refine AW.reg cd69_16 fun K hK => ?_
    simp only [g69_16, bR, Nat.reduceEqDiff, reduceIte, Int.reduceBNe, Int.reduceBEq]
    refine .done (hK _ ?_); clear hK K; simp only [thenQ, blockQ]
    refine ⟨j + 1, ⟨by omega, fun k hk => ?_⟩, by omega, ?_⟩
    · rcases Nat.lt_or_ge k j with h1 | h1
      · exact hi.2 k h1
      · have : k = j := by omega
        subst this
        exact all_true hj.2
    · rw [wrap_id _ (by omega) (by omega)]
      refine Sub.of_lists ?_ ?_ ?_ ?_ <;> simp [subT, subO, onlyT, onlyO, isIn, look_cons, lookO_cons, lookO_nil, AV.only, AV.onlys, AO.only, onlys_map, onlys_append, e_only, e_int, e_bool]
  have hjl : j < i := by simp at h; omega
  have bad2 : apartIn m.wear places (gl L i) (gl L j) = false → settledAt m.wear L places i = false := fun h => all_false j hjl h
  obtain ⟨kj, hkj, hjj, hgj⟩ := hidx j (by omega)
  have hli : i < (L.map (·.owner)).length := by rw [List.length_map]; exact hlt
  have hlj : j < (L.map (·.owner)).length := by rw [List.length_map]; omega
  refine AW.skip ?_; simp only [thenQ, blockQ, reduceIte, Nat.reduceEqDiff]
  refine AW.seq (AW.block ?_)
  refine AW.seq (AW.reg cd69_6 fun K hK => ?_)
  simp only [g69_6, bR, Nat.reduceEqDiff, reduceIte, Int.reduceBNe, Int.reduceBEq]
  simp only [isE_getD hli, gl_map hlt, typR, useR, okR, e_fin, bR, Nat.reduceEqDiff, reduceIte, Int.reduceBNe, Int.reduceBEq]
  refine .flat _ (F80 m (gl L i).owner) rfl ?_
  simp only [hii, isE_gv hki, hgi, typR, useR, okR, e_fin, e_a6, stR3_6, bR, Nat.reduceEqDiff, reduceIte, Int.reduceBNe, Int.reduceBEq]
  refine .done (hK _ ?_); clear hK K; simp only [thenQ, blockQ]
  refine AW.seq (AW.reg cd69_7 fun K hK => ?_)
  simp only [g69_7, bR, Nat.reduceEqDiff, reduceIte, Int.reduceBNe, Int.reduceBEq]
  simp only [isE_getD hlj, gl_map (show j < L.length by omega), typR, useR, okR, e_fin, bR, Nat.reduceEqDiff, reduceIte, Int.reduceBNe, Int.reduceBEq]
  refine .flat _ (F80 m (gl L j).owner) rfl ?_
  simp only [hjj, isE_gv hkj, hgj, typR, useR, okR, e_fin, e_a6, stR3_6, bR, Nat.reduceEqDiff, reduceIte, Int.reduceBNe, Int.reduceBEq]
  refine .done (hK _ ?_); clear hK K; simp only [thenQ, blockQ]
  refine AW.seq (AW.reg cd69_8 fun K hK => ?_)
  simp only [g69_8, bR, Nat.reduceEqDiff, reduceIte, Int.reduceBNe, Int.reduceBEq]
  refine .done (hK _ ?_); clear hK K; simp only [thenQ, blockQ]
  have hoi := hok i hlt
  have hoj := hok j (by omega)
  refine AW.seq (AW.seq ?_)
  refine AW.reg cd69_9 fun K hK => ?_
  simp only [g69_9, bR, Nat.reduceEqDiff, reduceIte, Int.reduceBNe, Int.reduceBEq]
  refine .done (hK _ ?_); clear hK K; simp only [thenQ, blockQ]
  refine AW.block (AW.loop (fun q : Nat => mkA [(2, enc places), (3, .ptr 3 []), (7, enc (L.map (·.owner))), (8, .int .i64 i), (9, .int .i64 j), (10, .ptr 10 []), (11, .ptr 11 []), (12, .bool ((places.take q).any fun k => apartAt m.wear (gl L i).mark (gl L j).mark k.toNat)), (13, .int .i64 q)] [(3, .box (enc m)), (10, .box (enc (gl L i).mark)), (11, .box (enc (gl L j).mark))]) (fun q => q ≤ places.length) (fun q => places.length - q) 0 (by omega) ?_ (fun q hq => ?_))
  · refine Sub.of_lists ?_ ?_ ?_ ?_ <;> simp [subT, subO, onlyT, onlyO, isIn, look_cons, lookO_cons, lookO_nil, AV.only, AV.onlys, AO.only, onlys_map, onlys_append, e_only, e_int, e_bool]
  refine AW.seq (AW.seq ?_)
  refine AW.reg cd69_10 fun K hK => ?_
  simp only [g69_10, bR, Nat.reduceEqDiff, reduceIte, Int.reduceBNe, Int.reduceBEq]
  try simp only [typR, useR, okR, e_fin, bR, Nat.reduceEqDiff, reduceIte, Int.reduceBNe, Int.reduceBEq]
  refine .done (hK _ ?_); clear hK K; simp only [thenQ, blockQ]
  refine AW.ite ?_
  simp only [condQ, bR, Nat.reduceEqDiff, reduceIte, Int.reduceBNe, Int.reduceBEq]
  refine ⟨fun h => ?_, fun h => ?_⟩
  · have hql : q < places.length := by simpa using h
    obtain ⟨p0, p6⟩ := places_at hp hql
    have pk : (places.getD q 0).toNat < 6 := by omega
    have ai := okMark_at hoi pk
    have aj := okMark_at hoj pk
    have wi : ((gl L i).mark.g (places.getD q 0).toNat).toNat < 5 := by omega
    have wj : ((gl L j).mark.g (places.getD q 0).toNat).toNat < 5 := by omega
    have hsucc := any_take_succ (fun k : Int => apartAt m.wear (gl L i).mark (gl L j).mark k.toNat) places 0 hql
    refine AW.skip ?_; simp only [thenQ, blockQ, reduceIte, Nat.reduceEqDiff]
    refine AW.seq (AW.block ?_)
    generalize hb : (places.take q).any (fun k => apartAt m.wear (gl L i).mark (gl L j).mark k.toNat) = b at hsucc
    refine AW.reg cd69_11 fun K hK => ?_
    simp only [g69_11, bR, Nat.reduceEqDiff, reduceIte, Int.reduceBNe, Int.reduceBEq]
    cases b
    · simp only [isE_getD hql, at_wear, inB_int 1 (gl L i).mark ⟨p0, p6⟩ rfl, atL_g (gl L i).mark pk, inB_int 1 (gl L j).mark ⟨p0, p6⟩ rfl, atL_g (gl L j).mark pk, inB_int 1 m.wear ai rfl, atL_g m.wear wi, inB_int 1 m.wear aj rfl, atL_g m.wear wj, typR, useR, okR, e_fin, bR, Nat.reduceEqDiff, reduceIte, Int.reduceBNe, Int.reduceBEq]
      refine .done (hK _ ?_); clear hK K; simp only [thenQ, blockQ]
      refine AW.reg cd69_12 fun K hK => ?_
      simp only [g69_12, bR, Nat.reduceEqDiff, reduceIte, Int.reduceBNe, Int.reduceBEq]
      refine .done (hK _ ?_); clear hK K; simp only [thenQ, blockQ]
      refine ⟨q + 1, by omega, by omega, ?_⟩
      rw [hsucc, wrap_id _ (by omega) (by omega), Bool.false_or]
      refine Sub.of_lists ?_ ?_ ?_ ?_ <;> simp [subT, subO, onlyT, onlyO, isIn, look_cons, lookO_cons, lookO_nil, AV.only, AV.onlys, AO.only, onlys_map, onlys_append, e_only, e_int, e_bool]
      all_goals rfl
    · try simp only [typR, useR, okR, e_fin, bR, Nat.reduceEqDiff, reduceIte, Int.reduceBNe, Int.reduceBEq]
      refine .done (hK _ ?_); clear hK K; simp only [thenQ, blockQ]
      refine AW.reg cd69_12 fun K hK => ?_
      simp only [g69_12, bR, Nat.reduceEqDiff, reduceIte, Int.reduceBNe, Int.reduceBEq]
      refine .done (hK _ ?_); clear hK K; simp only [thenQ, blockQ]
      refine ⟨q + 1, by omega, by omega, ?_⟩
      rw [hsucc, wrap_id _ (by omega) (by omega), Bool.true_or]
      refine Sub.of_lists ?_ ?_ ?_ ?_ <;> simp [subT, subO, onlyT, onlyO, isIn, look_cons, lookO_cons, lookO_nil, AV.only, AV.onlys, AO.only, onlys_map, onlys_append, e_only, e_int, e_bool]
  have hqe : q = places.length := by simp at h; omega
  subst hqe
  have hap : (places.take places.length).any (fun k => apartAt m.wear (gl L i).mark (gl L j).mark k.toNat) = apartIn m.wear places (gl L i) (gl L j) := by rw [List.take_length]; rfl
  rw [hap]
  refine AW.exit ?_; simp only [thenQ, blockQ, reduceIte, Nat.reduceEqDiff]
  generalize hb : apartIn m.wear places (gl L i) (gl L j) = b
  refine AW.seq (AW.reg cd69_13 fun K hK => ?_)
  simp only [g69_13, bR, Nat.reduceEqDiff, reduceIte, Int.reduceBNe, Int.reduceBEq]
  refine .done (hK _ ?_); clear hK K; simp only [thenQ, blockQ]
  cases b
  · refine AW.ite ?_
    simp only [condQ, bR, Nat.reduceEqDiff, reduceIte, Int.reduceBNe, Int.reduceBEq]
    refine ⟨fun h => ?_, fun h => ?_⟩
    · refine AW.seq (AW.reg cd69_14 fun K hK => ?_)
      simp only [g69_14, bR, Nat.reduceEqDiff, reduceIte, Int.reduceBNe, Int.reduceBEq]
      refine .done (hK _ ?_); clear hK K; simp only [thenQ, blockQ]
      refine AW.ret ?_
      simp only [blockQ, thenQ, bR, Nat.reduceEqDiff, reduceIte, Int.reduceBNe, Int.reduceBEq]
      rw [bad (bad2 hb)]
    · cases h
  · refine AW.ite ?_
    simp only [condQ, bR, Nat.reduceEqDiff, reduceIte, Int.reduceBNe, Int.reduceBEq]
    refine ⟨fun h => ?_, fun h => ?_⟩
    · cases h
    refine AW.skip ?_; simp only [thenQ, blockQ, reduceIte, Nat.reduceEqDiff]
    refine AW.reg cd69_15 fun K hK => ?_
    simp only [g69_15, bR, Nat.reduceEqDiff, reduceIte, Int.reduceBNe, Int.reduceBEq]
    refine .done (hK _ ?_); clear hK K; simp only [thenQ, blockQ]
    refine ⟨j + 1, ⟨by omega, fun k hk => ?_⟩, by omega, ?_⟩
    · rcases Nat.lt_or_ge k j with h2 | h2
      · exact hj.2 k h2
      · have : k = j := by omega
        subst this; exact hb
    · rw [wrap_id _ (by omega) (by omega)]
      refine Sub.of_lists ?_ ?_ ?_ ?_ <;> simp [subT, subO, onlyT, onlyO, isIn, look_cons, lookO_cons, lookO_nil, AV.only, AV.onlys, AO.only, onlys_map, onlys_append, e_only, e_int, e_bool]
end Go.Proofs.Ytkjkbpgdpnapfaa

/-
  FUNCTIONS OF THE REFERENCE BY CONTRACT: Looked.
-/
namespace Go.Proofs.Ytkjkbpgdpnapfaa
open Go Go.Abs
open Go.Abs.Enc (enc)
structure Sights where
  first : Arr 6 Int
  again : Arr 6 Int
  places : List Int
instance : Enc Sights where
  enc p := .agg [enc p.first, enc p.again, enc p.places]
  sz := 13
  sh := .many [.many (List.replicate 6 .one), .many (List.replicate 6 .one), .one]
  isA := true
  done p := by simp only [AV.done, AV.dones, Enc.done, Bool.and_self]
  size p := by simp only [AV.size, AV.sizes, e_size, e_szArr, e_szInt, e_szList]
  shp p := by simp only [AV.sh, AV.shs, e_sh, e_shArr, e_shInt, e_shList]
  agg _ := rfl
theorem sightR : (∀ p : Sights, (enc p).flds = some [enc p.first, enc p.again, enc p.places]) ∧ (∀ (a b : Arr 6 Int) (l : List Int) v, offR [enc a, enc b, enc l] 0 0 v = some v) ∧ (∀ (a b : Arr 6 Int) (l : List Int) v, offR [enc a, enc b, enc l] 1 6 v = some v) ∧ (∀ (a b : Arr 6 Int) (l : List Int) v, offR [enc a, enc b, enc l] 2 12 v = some v) ∧ (∀ p : Sights, okLd (some 13) (enc p) = true) :=
  ⟨fun _ => rfl, fun _ _ _ _ => offR_eq (Nat.le_of_ble_eq_true rfl) rfl, fun a b l v => offR_eq (Nat.le_of_ble_eq_true rfl) (by simp [AV.sizes, e_size, e_szArr, e_szInt]), fun a b l v => offR_eq (Nat.le_of_ble_eq_true rfl) (by simp [AV.sizes, e_size, e_szArr, e_szInt]), fun _ => by rw [e_okS]; rfl⟩
theorem all_take_succ {α : Type} (p : α → Bool) (l : List α) (d : α) {j : Nat} (h : j < l.length) : (l.take (j + 1)).all p = ((l.take j).all p && p (l.getD j d)) := by
  rw [List.take_succ_eq_append_getElem h, List.all_append]
  simp [List.getD_eq_getElem?_getD, h]
theorem clash_all (w : Arr 5 Int) (x : Arr 6 Int) (places : List Int) (g : Given) : (places.all fun k => band (w.g (g.mark.g k.toNat).toNat) (x.g k.toNat) != 0) = !clash w x places g := by
  simp only [clash]
  induction places with
  | nil => rfl
  | cons k l ih => rw [List.all_cons, List.any_cons, Bool.not_or, ih]; rfl
def fitTo (w : Arr 5 Int) (x : Arr 6 Int) (places : List Int) (L : List Given) (i : Nat) : List Int := ((L.take i).filter fun g => !clash w x places g).map (·.owner)
theorem fitTo_succ {w : Arr 5 Int} {x : Arr 6 Int} {places : List Int} {L : List Given} {i : Nat} (h : i < L.length) : fitTo w x places L (i + 1) = fitTo w x places L i ++ if clash w x places (gl L i) then [] else [(gl L i).owner] := by
  simp only [fitTo]
  rw [List.take_succ_eq_append_getElem h, List.filter_append, List.map_append, gl_eq h]
  congr 1
  simp only [List.filter_cons, List.filter_nil]
  cases clash w x places (gl L i) <;> rfl
theorem fitTo_len (w : Arr 5 Int) (x : Arr 6 Int) (places : List Int) (L : List Given) (i : Nat) : (fitTo w x places L i).length ≤ L.length := by
  simp only [fitTo, List.length_map]
  exact Nat.le_trans (List.length_filter_le _ _) (by rw [List.length_take]; omega)
theorem at_again (m : Sights) (k : Nat) : (enc m : AV).at ([1] ++ [k]) = (enc m.again : AV).at [k] := rfl
theorem F15 (m : Marks) (s : Sights) : Ctr Try.prog 15 [enc m, enc s] (.tuple [enc (lookedOf m s.first s.again s.places).1, enc (lookedOf m s.first s.again s.places).2]) := by
  refine Ctr.mk' Try.func15 ca15 cc15 cr15 (Nat.le_of_ble_eq_true rfl) (fun hwf W0 D0 E1 => ?_)
  simp only [c15, r15, idx, Nat.zero_add, Nat.reduceAdd]
  refine AW.seq (AW.reg cd15_0 fun K hK => ?_)
  simp only [g15_0, bR, Nat.reduceEqDiff, reduceIte, Int.reduceBNe, Int.reduceBEq]
  simp only [e_isVal, bR, Nat.reduceEqDiff, reduceIte, Int.reduceBNe, Int.reduceBEq]
  refine .done (hK _ ?_); clear hK K; simp only [thenQ, blockQ]
  refine AW.seq (AW.reg cd15_1 fun K hK => ?_)
  simp only [g15_1, bR, Nat.reduceEqDiff, reduceIte, Int.reduceBNe, Int.reduceBEq]
  simp only [sightR, typR, useR, okR, e_fin, bR, Nat.reduceEqDiff, reduceIte, Int.reduceBNe, Int.reduceBEq]
  refine .lead _ (F28 m s.first) ?_
  try simp only [typR, useR, okR, e_fin, bR, Nat.reduceEqDiff, reduceIte, Int.reduceBNe, Int.reduceBEq]
  refine .done (hK _ ?_); clear hK K; simp only [thenQ, blockQ]
  have hpl0 : s.places.length ≤ maxLen := ((wf_list s.places).1 hwf.2.1.2.2.1).1
  simp only [maxLen] at hpl0
  generalize hw : okM m = bw
  generalize hr : okReading s.first = br
  refine AW.seq (AW.seq ?_)
  cases bw
  · have ho : (ownersOf m s.first).2 = 13 := by simp [ownersOf, hw]
    refine AW.reg cd15_2 fun K hK => ?_
    simp only [g15_2, bR, Nat.reduceEqDiff, reduceIte, Int.reduceBNe, Int.reduceBEq]
    refine .done (hK _ ?_); clear hK K; simp only [thenQ, blockQ]
    simp only [ho]
    refine AW.ite ?_
    simp only [condQ, bR, Nat.reduceEqDiff, reduceIte, Int.reduceBNe, Int.reduceBEq]
    refine ⟨fun h => ?_, fun h => ?_⟩
    · refine AW.seq (AW.reg cd15_3 fun K hK => ?_)
      simp only [g15_3, bR, Nat.reduceEqDiff, reduceIte, Int.reduceBNe, Int.reduceBEq]
      refine .done (hK _ ?_); clear hK K; simp only [thenQ, blockQ]
      refine AW.ret ?_
      simp only [blockQ, thenQ, bR, Nat.reduceEqDiff, reduceIte, Int.reduceBNe, Int.reduceBEq]
      simp [lookedOf, hw, nilInt, e_int]
    · cases h
  cases br
  · have ho : (ownersOf m s.first).2 = 12 := by simp [ownersOf, hw, hr]
    refine AW.reg cd15_2 fun K hK => ?_
    simp only [g15_2, bR, Nat.reduceEqDiff, reduceIte, Int.reduceBNe, Int.reduceBEq]
    refine .done (hK _ ?_); clear hK K; simp only [thenQ, blockQ]
    simp only [ho]
    refine AW.ite ?_
    simp only [condQ, bR, Nat.reduceEqDiff, reduceIte, Int.reduceBNe, Int.reduceBEq]
    refine ⟨fun h => ?_, fun h => ?_⟩
    · refine AW.seq (AW.reg cd15_3 fun K hK => ?_)
      simp only [g15_3, bR, Nat.reduceEqDiff, reduceIte, Int.reduceBNe, Int.reduceBEq]
      refine .done (hK _ ?_); clear hK K; simp only [thenQ, blockQ]
      refine AW.ret ?_
      simp only [blockQ, thenQ, bR, Nat.reduceEqDiff, reduceIte, Int.reduceBNe, Int.reduceBEq]
      simp [lookedOf, hw, hr, nilInt, e_int]
    · cases h
  have ho : (ownersOf m s.first).2 = 0 := by simp [ownersOf, hw, hr]
  have ho1 : (ownersOf m s.first).1 = (possG m s.first).map (·.owner) := by simp [ownersOf, hw, hr, possG_owners]
  refine AW.reg cd15_2 fun K hK => ?_
  simp only [g15_2, bR, Nat.reduceEqDiff, reduceIte, Int.reduceBNe, Int.reduceBEq]
  refine .done (hK _ ?_); clear hK K; simp only [thenQ, blockQ]
  simp only [ho, ho1]
  refine AW.ite ?_
  simp only [condQ, bR, Nat.reduceEqDiff, reduceIte, Int.reduceBNe, Int.reduceBEq]
  refine ⟨fun h => ?_, fun h => ?_⟩
  · cases h
  refine AW.skip ?_; simp only [thenQ, blockQ, reduceIte, Nat.reduceEqDiff]
  refine AW.seq (AW.seq ?_)
  refine AW.reg cd15_4 fun K hK => ?_
  simp only [g15_4, bR, Nat.reduceEqDiff, reduceIte, Int.reduceBNe, Int.reduceBEq]
  simp only [sightR, typR, useR, okR, e_fin, bR, Nat.reduceEqDiff, reduceIte, Int.reduceBNe, Int.reduceBEq]
  refine .flat _ (F46' s.again) rfl ?_
  generalize hwo : okReading s.again = bwo
  cases bwo
  · try simp only [typR, useR, okR, e_fin, bR, Nat.reduceEqDiff, reduceIte, Int.reduceBNe, Int.reduceBEq]
    refine .done (hK _ ?_); clear hK K; simp only [thenQ, blockQ]
    refine AW.ite ?_
    simp only [condQ, bR, Nat.reduceEqDiff, reduceIte, Int.reduceBNe, Int.reduceBEq]
    refine ⟨fun h => ?_, fun h => ?_⟩
    · refine AW.seq (AW.reg cd15_5 fun K hK => ?_)
      simp only [g15_5, bR, Nat.reduceEqDiff, reduceIte, Int.reduceBNe, Int.reduceBEq]
      refine .done (hK _ ?_); clear hK K; simp only [thenQ, blockQ]
      refine AW.ret ?_
      simp only [blockQ, thenQ, bR, Nat.reduceEqDiff, reduceIte, Int.reduceBNe, Int.reduceBEq]
      simp [lookedOf, hw, hr, hwo, nilInt, e_int]
    · cases h
  try simp only [typR, useR, okR, e_fin, bR, Nat.reduceEqDiff, reduceIte, Int.reduceBNe, Int.reduceBEq]
  refine .done (hK _ ?_); clear hK K; simp only [thenQ, blockQ]
  refine AW.ite ?_
  simp only [condQ, bR, Nat.reduceEqDiff, reduceIte, Int.reduceBNe, Int.reduceBEq]
  refine ⟨fun h => ?_, fun h => ?_⟩
  · cases h
  refine AW.skip ?_; simp only [thenQ, blockQ, reduceIte, Nat.reduceEqDiff]
  refine AW.seq (AW.seq ?_)
  refine AW.reg cd15_6 fun K hK => ?_
  simp only [g15_6, bR, Nat.reduceEqDiff, reduceIte, Int.reduceBNe, Int.reduceBEq]
  simp only [sightR, typR, useR, okR, e_fin, bR, Nat.reduceEqDiff, reduceIte, Int.reduceBNe, Int.reduceBEq]
  refine .flat _ (F79 s.places) rfl ?_
  generalize hp : okPlaces s.places = bp
  cases bp
  · try simp only [typR, useR, okR, e_fin, bR, Nat.reduceEqDiff, reduceIte, Int.reduceBNe, Int.reduceBEq]
    refine .done (hK _ ?_); clear hK K; simp only [thenQ, blockQ]
    refine AW.ite ?_
    simp only [condQ, bR, Nat.reduceEqDiff, reduceIte, Int.reduceBNe, Int.reduceBEq]
    refine ⟨fun h => ?_, fun h => ?_⟩
    · refine AW.seq (AW.reg cd15_7 fun K hK => ?_)
      simp only [g15_7, bR, Nat.reduceEqDiff, reduceIte, Int.reduceBNe, Int.reduceBEq]
      refine .done (hK _ ?_); clear hK K; simp only [thenQ, blockQ]
      refine AW.ret ?_
      simp only [blockQ, thenQ, bR, Nat.reduceEqDiff, reduceIte, Int.reduceBNe, Int.reduceBEq]
      simp [lookedOf, hw, hr, hwo, hp, nilInt, e_int]
    · cases h
  try simp only [typR, useR, okR, e_fin, bR, Nat.reduceEqDiff, reduceIte, Int.reduceBNe, Int.reduceBEq]
  refine .done (hK _ ?_); clear hK K; simp only [thenQ, blockQ]
  refine AW.ite ?_
  simp only [condQ, bR, Nat.reduceEqDiff, reduceIte, Int.reduceBNe, Int.reduceBEq]
  refine ⟨fun h => ?_, fun h => ?_⟩
  · cases h
  refine AW.skip ?_; simp only [thenQ, blockQ, reduceIte, Nat.reduceEqDiff]
  have hpp := okPlaces_in hp
  have hlen := okM_len hw
  have hans : lookedOf m s.first s.again s.places = (fitTo m.wear s.again s.places (possG m s.first) (possG m s.first).length, 0) := by
    simp only [lookedOf, hw, hr, hwo, hp, if_true, lookedG, keep, fitTo, List.take_length]
  rw [hans]
  have hposs : ∀ g ∈ possG m s.first, g ∈ m.given := fun g hg => possG_mem hg
  have hLl : (possG m s.first).length ≤ m.given.length := List.length_filter_le _ _
  generalize possG m s.first = L at hposs hLl ⊢
  have hok : ∀ i, i < L.length → okMark (gl L i).mark = true := fun i hi => by rw [← gl_eq hi]; exact okM_mark hw _ (hposs _ (List.getElem_mem hi))
  have hidx : ∀ i, i < L.length → ∃ k, k < m.given.length ∧ indexOf m.given (gl L i).owner = (k : Int) ∧ gv m k = gl L i := fun i hi => indexOf_owner hw (by rw [← gl_eq hi]; exact hposs _ (List.getElem_mem hi))
  refine AW.seq (AW.reg cd15_8 fun K hK => ?_)
  simp only [g15_8, bR, Nat.reduceEqDiff, reduceIte, Int.reduceBNe, Int.reduceBEq]
  refine .done (hK _ ?_); clear hK K; simp only [thenQ, blockQ]
  refine AW.seq (AW.seq ?_)
  refine AW.reg cd15_9 fun K hK => ?_
  simp only [g15_9, bR, Nat.reduceEqDiff, reduceIte, Int.reduceBNe, Int.reduceBEq]
  refine .done (hK _ ?_); clear hK K; simp only [thenQ, blockQ]
  refine AW.block (AW.loop (fun i : Nat => mkA [(2, .ptr 2 []), (3, .ptr 3 []), (6, enc (L.map (·.owner))), (8, .own 8 (fitTo m.wear s.again s.places L i).length), (9, .int .i64 i)] [(8, .row 3 1 ((fitTo m.wear s.again s.places L i).map enc)), (2, .box (enc m)), (3, .box (enc s))]) (fun i => i ≤ L.length) (fun i => L.length - i) 0 (by omega) ?_ (fun i hi => ?_))
  · refine Sub.adoptL 8 8 3 1 1 ?_ ?_ ?_
    · simp only [bR, Nat.reduceEqDiff, reduceIte, Int.reduceBNe, Int.reduceBEq]
    · simp only [bR, Nat.reduceEqDiff, reduceIte, Int.reduceBNe, Int.reduceBEq]
    · simp only [fitTo, List.take_zero, List.filter_nil, List.map_nil, List.length_nil]
      refine Sub.of_lists ?_ ?_ ?_ ?_ <;> simp [subT, subO, onlyT, onlyO, isIn, look_cons, lookO_cons, lookO_nil, AV.only, AV.onlys, AO.only, onlys_map, onlys_append, e_only, e_int, e_bool]
  refine AW.seq (AW.seq ?_)
  refine AW.reg cd15_10 fun K hK => ?_
  simp only [g15_10, bR, Nat.reduceEqDiff, reduceIte, Int.reduceBNe, Int.reduceBEq]
  simp only [typR, useR, okR, e_fin, List.length_map, bR, Nat.reduceEqDiff, reduceIte, Int.reduceBNe, Int.reduceBEq]
  refine .done (hK _ ?_); clear hK K; simp only [thenQ, blockQ]
  refine AW.ite ?_
  simp only [condQ, bR, Nat.reduceEqDiff, reduceIte, Int.reduceBNe, Int.reduceBEq]
  refine ⟨fun h => ?_, fun h => ?_⟩
  case refine_2.refine_2 =>
    have hge : i = L.length := by simp at h; omega
    subst hge
    refine AW.exit ?_; simp only [thenQ, blockQ, reduceIte, Nat.reduceEqDiff]
    refine AW.seq (AW.reg cd15_20 fun K hK => ?_)
    simp only [g15_20, bR, Nat.reduceEqDiff, reduceIte, Int.reduceBNe, Int.reduceBEq]
    refine .done (hK _ ?_); clear hK K; simp only [thenQ, blockQ]
    refine AW.ret ?_
    simp only [blockQ, thenQ, bR, Nat.reduceEqDiff, reduceIte, Int.reduceBNe, Int.reduceBEq]
  have hlt : i < L.length := by simpa using h
  obtain ⟨ki, hki, hii, hgi⟩ := hidx i hlt
  have hli : i < (L.map (·.owner)).length := by rw [List.length_map]; exact hlt
  have hoi := hok i hlt
  have hfl := fitTo_len m.wear s.again s.places L i
  have hfs := fitTo_succ (w := m.wear) (x := s.again) (places := s.places) hlt
  refine AW.skip ?_; simp only [thenQ, blockQ, reduceIte, Nat.reduceEqDiff]
  refine AW.seq (AW.block ?_)
  refine AW.seq (AW.reg cd15_11 fun K hK => ?_)
  simp only [g15_11, bR, Nat.reduceEqDiff, reduceIte, Int.reduceBNe, Int.reduceBEq]
  simp only [isE_getD hli, gl_map hlt, typR, useR, okR, e_fin, bR, Nat.reduceEqDiff, reduceIte, Int.reduceBNe, Int.reduceBEq]
  refine .flat _ (F80 m (gl L i).owner) rfl ?_
  simp only [hii, isE_gv hki, hgi, typR, useR, okR, e_fin, e_a6, stR3_6, bR, Nat.reduceEqDiff, reduceIte, Int.reduceBNe, Int.reduceBEq]
  refine .done (hK _ ?_); clear hK K; simp only [thenQ, blockQ]
  refine AW.seq (AW.reg cd15_12 fun K hK => ?_)
  simp only [g15_12, bR, Nat.reduceEqDiff, reduceIte, Int.reduceBNe, Int.reduceBEq]
  refine .done (hK _ ?_); clear hK K; simp only [thenQ, blockQ]
  refine AW.seq (AW.seq ?_)
  refine AW.reg cd15_13 fun K hK => ?_
  simp only [g15_13, bR, Nat.reduceEqDiff, reduceIte, Int.reduceBNe, Int.reduceBEq]
  refine .done (hK _ ?_); clear hK K; simp only [thenQ, blockQ]
  refine AW.block (AW.loop (fun q : Nat => mkA [(2, .ptr 2 []), (3, .ptr 3 []), (6, enc (L.map (·.owner))), (8, .own 8 (fitTo m.wear s.again s.places L i).length), (9, .int .i64 i), (10, .ptr 10 []), (11, .bool ((s.places.take q).all fun k => band (m.wear.g ((gl L i).mark.g k.toNat).toNat) (s.again.g k.toNat) != 0)), (12, .int .i64 q)] [(8, .row 3 1 ((fitTo m.wear s.again s.places L i).map enc)), (2, .box (enc m)), (3, .box (enc s)), (10, .box (enc (gl L i).mark))]) (fun q => q ≤ s.places.length) (fun q => s.places.length - q) 0 (by omega) ?_ (fun q hq => ?_))
  · refine Sub.of_lists ?_ ?_ ?_ ?_ <;> simp [subT, subO, onlyT, onlyO, isIn, look_cons, lookO_cons, lookO_nil, AV.only, AV.onlys, AO.only, onlys_map, onlys_append, e_only, e_int, e_bool]
  refine AW.seq (AW.seq ?_)
  refine AW.reg cd15_14 fun K hK => ?_
  simp only [g15_14, bR, Nat.reduceEqDiff, reduceIte, Int.reduceBNe, Int.reduceBEq]
  simp only [sightR, typR, useR, okR, e_fin, bR, Nat.reduceEqDiff, reduceIte, Int.reduceBNe, Int.reduceBEq]
  refine .done (hK _ ?_); clear hK K; simp only [thenQ, blockQ]
  refine AW.ite ?_
  simp only [condQ, bR, Nat.reduceEqDiff, reduceIte, Int.reduceBNe, Int.reduceBEq]
  refine ⟨fun h => ?_, fun h => ?_⟩
  · have hql : q < s.places.length := by simpa using h
    obtain ⟨p0, p6⟩ := places_at hpp hql
    have pk : (s.places.getD q 0).toNat < 6 := by omega
    have ai := okMark_at hoi pk
    have wi : ((gl L i).mark.g (s.places.getD q 0).toNat).toNat < 5 := by omega
    have hsucc := all_take_succ (fun k : Int => band (m.wear.g ((gl L i).mark.g k.toNat).toNat) (s.again.g k.toNat) != 0) s.places 0 hql
    refine AW.skip ?_; simp only [thenQ, blockQ, reduceIte, Nat.reduceEqDiff]
    refine AW.seq (AW.block ?_)
    generalize hb : (s.places.take q).all (fun k => band (m.wear.g ((gl L i).mark.g k.toNat).toNat) (s.again.g k.toNat) != 0) = b at hsucc
    refine AW.reg cd15_15 fun K hK => ?_
    simp only [g15_15, bR, Nat.reduceEqDiff, reduceIte, Int.reduceBNe, Int.reduceBEq]
    cases b
    · try simp only [typR, useR, okR, e_fin, bR, Nat.reduceEqDiff, reduceIte, Int.reduceBNe, Int.reduceBEq]
      refine .done (hK _ ?_); clear hK K; simp only [thenQ, blockQ]
      refine AW.reg cd15_16 fun K hK => ?_
      simp only [g15_16, bR, Nat.reduceEqDiff, reduceIte, Int.reduceBNe, Int.reduceBEq]
      refine .done (hK _ ?_); clear hK K; simp only [thenQ, blockQ]
      refine ⟨q + 1, by omega, by omega, ?_⟩
      rw [hsucc, wrap_id _ (by omega) (by omega), Bool.false_and]
      refine Sub.of_lists ?_ ?_ ?_ ?_ <;> simp [subT, subO, onlyT, onlyO, isIn, look_cons, lookO_cons, lookO_nil, AV.only, AV.onlys, AO.only, onlys_map, onlys_append, e_only, e_int, e_bool]
    · simp only [sightR, isE_getD hql, at_wear, at_again, inB_int 1 (gl L i).mark ⟨p0, p6⟩ rfl, atL_g (gl L i).mark pk, inB_int 1 m.wear ai rfl, atL_g m.wear wi, inB_int 1 s.again ⟨p0, p6⟩ rfl, atL_g s.again pk, typR, useR, okR, e_fin, bR, Nat.reduceEqDiff, reduceIte, Int.reduceBNe, Int.reduceBEq]
      refine .done (hK _ ?_); clear hK K; simp only [thenQ, blockQ]
      refine AW.reg cd15_16 fun K hK => ?_
      simp only [g15_16, bR, Nat.reduceEqDiff, reduceIte, Int.reduceBNe, Int.reduceBEq]
      refine .done (hK _ ?_); clear hK K; simp only [thenQ, blockQ]
      refine ⟨q + 1, by omega, by omega, ?_⟩
      rw [hsucc, wrap_id _ (by omega) (by omega), Bool.true_and]
      refine Sub.of_lists ?_ ?_ ?_ ?_ <;> simp [subT, subO, onlyT, onlyO, isIn, look_cons, lookO_cons, lookO_nil, AV.only, AV.onlys, AO.only, onlys_map, onlys_append, e_only, e_int, e_bool]
      all_goals rfl
  have hqe : q = s.places.length := by simp at h; omega
  subst hqe
  have hap : ((s.places.take s.places.length).all fun k => band (m.wear.g ((gl L i).mark.g k.toNat).toNat) (s.again.g k.toNat) != 0) = !clash m.wear s.again s.places (gl L i) := by rw [List.take_length, clash_all]
  rw [hap]
  refine AW.exit ?_; simp only [thenQ, blockQ, reduceIte, Nat.reduceEqDiff]
  generalize hb : clash m.wear s.again s.places (gl L i) = b at hfs
  refine AW.seq (AW.reg cd15_17 fun K hK => ?_)
  simp only [g15_17, bR, Nat.reduceEqDiff, reduceIte, Int.reduceBNe, Int.reduceBEq]
  refine .done (hK _ ?_); clear hK K; simp only [thenQ, blockQ]
  cases b
  · refine AW.ite ?_
    simp only [condQ, bR, Nat.reduceEqDiff, reduceIte, Int.reduceBNe, Int.reduceBEq]
    refine ⟨fun h => ?_, fun h => ?_⟩
    · refine AW.reg cd15_18 fun K hK => ?_
      simp only [g15_18, bR, Nat.reduceEqDiff, reduceIte, Int.reduceBNe, Int.reduceBEq]
      simp only [isE_getD hli, gl_map hlt, typR, useR, okR, e_fin, bR, Nat.reduceEqDiff, reduceIte, Int.reduceBNe, Int.reduceBEq]
      rw [appR3_enc 3 1 8 8 rfl rfl (by simp) (by simp [maxLen]; omega) (by simp; omega)]
      simp only [bR, Nat.reduceEqDiff, reduceIte, Int.reduceBNe, Int.reduceBEq]
      refine .done (hK _ ?_); clear hK K; simp only [thenQ, blockQ]
      refine AW.reg cd15_19 fun K hK => ?_
      simp only [g15_19, bR, Nat.reduceEqDiff, reduceIte, Int.reduceBNe, Int.reduceBEq]
      refine .done (hK _ ?_); clear hK K; simp only [thenQ, blockQ]
      refine ⟨i + 1, by omega, by omega, ?_⟩
      rw [wrap_id _ (by omega) (by omega), hfs]
      simp only [Bool.false_eq_true, if_false]
      refine Sub.of_lists ?_ ?_ ?_ ?_ <;> simp [subT, subO, onlyT, onlyO, isIn, look_cons, lookO_cons, lookO_nil, AV.only, AV.onlys, AO.only, onlys_map, onlys_append, e_only, e_int, e_bool]
    · cases h
  · refine AW.ite ?_
    simp only [condQ, bR, Nat.reduceEqDiff, reduceIte, Int.reduceBNe, Int.reduceBEq]
    refine ⟨fun h => ?_, fun h => ?_⟩
    · cases h
    refine AW.skip ?_; simp only [thenQ, blockQ, reduceIte, Nat.reduceEqDiff]
    refine AW.reg cd15_19 fun K hK => ?_
    simp only [g15_19, bR, Nat.reduceEqDiff, reduceIte, Int.reduceBNe, Int.reduceBEq]
    refine .done (hK _ ?_); clear hK K; simp only [thenQ, blockQ]
    refine ⟨i + 1, by omega, by omega, ?_⟩
    rw [wrap_id _ (by omega) (by omega), hfs]
    simp only [if_true, List.append_nil]
    refine Sub.of_lists ?_ ?_ ?_ ?_ <;> simp [subT, subO, onlyT, onlyO, isIn, look_cons, lookO_cons, lookO_nil, AV.only, AV.onlys, AO.only, onlys_map, onlys_append, e_only, e_int, e_bool]
end Go.Proofs.Ytkjkbpgdpnapfaa

/-
  THE LAW's OWN CHECK OF THE BOOK IT KNOWS, BY CONTRACT: sane.
-/
namespace Go.Proofs.Ytkjkbpgdpnapfaa
open Go Go.Abs
open Go.Abs.Enc (enc)
def rd1 : Arr 6 Int := a6 31 1 1 1 1 31
def wn1 : Arr 6 Int := a6 16 1 1 1 1 1
theorem sOwn : ownersOf bookM rd1 = ([1, 2, 3], 0) := by decide +kernel
theorem sLook : lookOf bookM rd1 = ([0], 0) := by decide +kernel
theorem sLooked : lookedOf bookM rd1 wn1 [0] = ([3], 0) := by decide +kernel
theorem sDist : distR bookM.wear (a6 2 1 0 0 0 0) (a6 3 2 0 0 0 0) = (2, 0) := by decide +kernel
theorem sWorn1 : (wornR bookM.wear (a6 3 1 0 0 0 0) [1, 0]).1 = wn1 := arr_ext (by decide +kernel)
theorem sWorn2 : (wornR bookM.wear (a6 3 1 0 0 0 0) [1, 0]).2 = 0 := by decide +kernel
theorem sNextK : nextK bookM = some 2 := find_range _ (by omega) (by decide +kernel) (fun j hj => by
  match j, hj with
  | 0, _ => decide +kernel
  | 1, _ => decide +kernel
  | n + 2, h => exact absurd h (by omega))
theorem sNext1 : (nextOf bookM).1 = a6 0 0 0 0 0 2 := by
  have h1 : okM bookM = true := by decide +kernel
  have h2 : ¬ bookM.given.length = 40 := by decide +kernel
  simp only [nextOf, h1, if_true, if_neg h2, sNextK]
  exact arr_ext (by decide +kernel)
theorem sNext2 : (nextOf bookM).2 = 0 := by
  have h1 : okM bookM = true := by decide +kernel
  have h2 : ¬ bookM.given.length = 40 := by decide +kernel
  simp only [nextOf, h1, if_true, if_neg h2, sNextK]
theorem F21 : Ctr Try.prog 21 [] (enc true) := by
  refine Ctr.mk' Try.func21 ca21 cc21 cr21 (Nat.le_of_ble_eq_true rfl) (fun hwf W0 D0 E1 => ?_)
  simp only [c21, r21, idx, Nat.zero_add, Nat.reduceAdd]
  refine AW.seq (AW.reg cd21_0 fun K hK => ?_)
  simp only [g21_0, bR, Nat.reduceEqDiff, reduceIte, Int.reduceBNe, Int.reduceBEq]
  refine .done (hK _ ?_); clear hK K; simp only [thenQ, blockQ]
  refine AW.seq (AW.reg cd21_1 fun K hK => ?_)
  simp only [g21_1, bR, Nat.reduceEqDiff, reduceIte, Int.reduceBNe, Int.reduceBEq]
  refine .lead _ F82 ?_
  simp only [e_a5, bR, Nat.reduceEqDiff, reduceIte, Int.reduceBNe, Int.reduceBEq]
  rw [stR3_ok (e_isVal _) (by rw [e_okS]; rfl) ((e_sh _).trans rfl)]
  simp only [setAt_nil, bR, Nat.reduceEqDiff, reduceIte, Int.reduceBNe, Int.reduceBEq]
  refine .done (hK _ ?_); clear hK K; simp only [thenQ, blockQ]
  refine AW.seq (AW.reg cd21_2 fun K hK => ?_)
  simp only [g21_2, bR, Nat.reduceEqDiff, reduceIte, Int.reduceBNe, Int.reduceBEq]
  simp only [bld6, e_a6, stR3_6, bR, Nat.reduceEqDiff, reduceIte, Int.reduceBNe, Int.reduceBEq]
  refine .done (hK _ ?_); clear hK K; simp only [thenQ, blockQ]
  refine AW.seq (AW.reg cd21_3 fun K hK => ?_)
  simp only [g21_3, bR, Nat.reduceEqDiff, reduceIte, Int.reduceBNe, Int.reduceBEq]
  try simp only [typR, useR, okR, e_fin, bR, Nat.reduceEqDiff, reduceIte, Int.reduceBNe, Int.reduceBEq]
  refine .lead _ (F26 bookM rd1) ?_
  simp only [sOwn, typR, bR, Nat.reduceEqDiff, reduceIte, Int.reduceBNe, Int.reduceBEq]
  refine .done (hK _ ?_); clear hK K; simp only [thenQ, blockQ]
  refine AW.seq (AW.reg cd21_4 fun K hK => ?_)
  simp only [g21_4, bR, Nat.reduceEqDiff, reduceIte, Int.reduceBNe, Int.reduceBEq]
  try simp only [typR, useR, okR, e_fin, bR, Nat.reduceEqDiff, reduceIte, Int.reduceBNe, Int.reduceBEq]
  refine .lead _ (F12 bookM rd1) ?_
  simp only [sLook, typR, bR, Nat.reduceEqDiff, reduceIte, Int.reduceBNe, Int.reduceBEq]
  refine .done (hK _ ?_); clear hK K; simp only [thenQ, blockQ]
  refine AW.seq (AW.reg cd21_5 fun K hK => ?_)
  simp only [g21_5, bR, Nat.reduceEqDiff, reduceIte, Int.reduceBNe, Int.reduceBEq]
  simp only [typR, useR, okR, e_fin, bld6, e_a6, bR, Nat.reduceEqDiff, reduceIte, Int.reduceBNe, Int.reduceBEq]
  refine .lead _ (F14 bookM rd1 wn1 [0]) ?_
  simp only [sLooked, typR, bR, Nat.reduceEqDiff, reduceIte, Int.reduceBNe, Int.reduceBEq]
  refine .done (hK _ ?_); clear hK K; simp only [thenQ, blockQ]
  refine AW.seq (AW.reg cd21_6 fun K hK => ?_)
  simp only [g21_6, bR, Nat.reduceEqDiff, reduceIte, Int.reduceBNe, Int.reduceBEq]
  try simp only [typR, useR, okR, e_fin, bR, Nat.reduceEqDiff, reduceIte, Int.reduceBNe, Int.reduceBEq]
  refine .lead _ (F55 bookM) ?_
  simp only [sNext1, sNext2, typR, e_a6, stR3_6, bR, Nat.reduceEqDiff, reduceIte, Int.reduceBNe, Int.reduceBEq]
  refine .done (hK _ ?_); clear hK K; simp only [thenQ, blockQ]
  refine AW.seq (AW.reg cd21_7 fun K hK => ?_)
  simp only [g21_7, bR, Nat.reduceEqDiff, reduceIte, Int.reduceBNe, Int.reduceBEq]
  simp only [typR, useR, okR, e_fin, bld6, e_a6, bR, Nat.reduceEqDiff, reduceIte, Int.reduceBNe, Int.reduceBEq]
  refine .lead _ (F36 bookM.wear (a6 2 1 0 0 0 0) (a6 3 2 0 0 0 0)) ?_
  simp only [sDist, typR, bR, Nat.reduceEqDiff, reduceIte, Int.reduceBNe, Int.reduceBEq]
  refine .done (hK _ ?_); clear hK K; simp only [thenQ, blockQ]
  refine AW.seq (AW.reg cd21_8 fun K hK => ?_)
  simp only [g21_8, bR, Nat.reduceEqDiff, reduceIte, Int.reduceBNe, Int.reduceBEq]
  simp only [typR, useR, okR, e_fin, bld6, e_a6, bs2, bR, Nat.reduceEqDiff, reduceIte, Int.reduceBNe, Int.reduceBEq]
  refine .lead _ (F19 bookM.wear (a6 3 1 0 0 0 0) [1, 0]) ?_
  simp only [sWorn1, sWorn2, typR, e_a6, stR3_6, bR, Nat.reduceEqDiff, reduceIte, Int.reduceBNe, Int.reduceBEq]
  refine .done (hK _ ?_); clear hK K; simp only [thenQ, blockQ]
  refine AW.seq (AW.reg cd21_9 fun K hK => ?_)
  simp only [g21_9, bR, Nat.reduceEqDiff, reduceIte, Int.reduceBNe, Int.reduceBEq]
  try simp only [typR, useR, okR, e_fin, bR, Nat.reduceEqDiff, reduceIte, Int.reduceBNe, Int.reduceBEq]
  refine .done (hK _ ?_); clear hK K; simp only [thenQ, blockQ]
  refine AW.seq (AW.reg cd21_10 fun K hK => ?_)
  simp only [g21_10, bR, Nat.reduceEqDiff, reduceIte, Int.reduceBNe, Int.reduceBEq]
  simp only [typR, useR, okR, e_fin, bs3, bR, Nat.reduceEqDiff, reduceIte, Int.reduceBNe, Int.reduceBEq]
  refine .flat _ (F16 [1, 2, 3] [1, 2, 3]) rfl ?_
  simp only [typR, useR, okR, e_fin, decide_true, bR, Nat.reduceEqDiff, reduceIte, Int.reduceBNe, Int.reduceBEq]
  refine .flat _ (F16 [0] [0]) rfl ?_
  simp only [typR, useR, okR, e_fin, decide_true, bR, Nat.reduceEqDiff, reduceIte, Int.reduceBNe, Int.reduceBEq]
  refine .flat _ (F16 [3] [3]) rfl ?_
  simp only [typR, useR, okR, e_fin, decide_true, bld6, e_a6, eqE_arr, bR, Nat.reduceEqDiff, reduceIte, Int.reduceBNe, Int.reduceBEq]
  refine .done (hK _ ?_); clear hK K; simp only [thenQ, blockQ]
  refine AW.ret ?_
  simp only [blockQ, thenQ, bR, Nat.reduceEqDiff, reduceIte, Int.reduceBNe, Int.reduceBEq]
  rfl
end Go.Proofs.Ytkjkbpgdpnapfaa

