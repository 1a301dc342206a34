/-
  FUNCTIONS OF THE PACKAGE mark BY CONTRACT: IndexFunc and ContainsFunc over given marks; isApart; Check; first.
-/
import Derived.RangeFuncIn
import Derived.ProofKit
import Derived.Test.YtkjkbpgdpnapfaaMcd
set_option linter.unusedSimpArgs false
set_option linter.unusedVariables false
namespace Go.Proofs.Ytkjkbpgdpnapfaa
open Go Go.Abs
open Go.Abs.Enc (enc)

theorem F120 (m : Marks) (g : Given) (k : Arr 6 Int) (hg : okMark g.mark = true) (hk : okMark k = true) : Ctr Try.prog 120 (enc g :: [.ref (enc m), .ref (enc k)]) (enc (tooNear m g.mark k)) := by
  refine Ctr.mk' Try.func120 ca120 cc120 cr120 (Nat.le_of_ble_eq_true rfl) (fun hwf W0 D0 E1 => ?_)
  simp only [c120, r120, idx, Nat.zero_add, Nat.reduceAdd]
  refine AW.seq (AW.reg cd120_0 fun K hK => ?_)
  simp only [g120_0, bR, Nat.reduceEqDiff, reduceIte, Int.reduceBNe, Int.reduceBEq]
  simp only [e_isVal, bR, Nat.reduceEqDiff, reduceIte, Int.reduceBNe, Int.reduceBEq]
  refine .done (hK _ ?_); clear hK K; simp only [thenQ, blockQ]
  refine AW.seq (AW.reg cd120_1 fun K hK => ?_)
  simp only [g120_1, bR, Nat.reduceEqDiff, reduceIte, Int.reduceBNe, Int.reduceBEq]
  simp only [typR, useR, okR, e_fin, bR, Nat.reduceEqDiff, reduceIte, Int.reduceBNe, Int.reduceBEq]
  refine .flat _ (F87 m.wear g.mark k hg hk) rfl ?_
  simp only [typR, useR, okR, bR, Nat.reduceEqDiff, reduceIte, Int.reduceBNe, Int.reduceBEq]
  refine .done (hK _ ?_); clear hK K; simp only [thenQ, blockQ]
  refine AW.ret ?_
  simp only [blockQ, thenQ, bR, Nat.reduceEqDiff, reduceIte, Int.reduceBNe, Int.reduceBEq]
  rfl

theorem F108 (l : List Given) (f : FuncId) (caps : List AV) (hcaps : AV.dones caps = true) (p : Given → Bool) (hf : ∀ x ∈ l, Ctr Try.prog f (enc x :: caps) (enc (p x))) : Ctr Try.prog 108 [enc l, .func f caps] (enc (match l.findIdx? p with | some i => (i : Int) | none => -1)) := by
  refine Ctr.mk' Try.func108 ca108 cc108 cr108 (Nat.le_of_ble_eq_true rfl) (fun hwf W0 D0 E1 => ?_)
  simp only [c108, r108, idx, Nat.zero_add, Nat.reduceAdd]
  have hlen : l.length ≤ maxLen := ((wf_list l).1 hwf.1).1
  simp only [maxLen] at hlen
  have hcl : AV.closeds caps = true := dones_closed caps hcaps
  have hfc : ∀ bx A, fins bx A caps = some caps := fun bx A => fins_dones bx A caps hcaps
  have hon : ∀ q, AV.onlys q caps = true := fun q => onlys_closed q caps hcl
  refine AW.seq (AW.reg cd108_0 fun K hK => ?_)
  simp only [g108_0, bR, Nat.reduceEqDiff, reduceIte, Int.reduceBNe, Int.reduceBEq]
  refine .done (hK _ ?_); clear hK K; simp only [thenQ, blockQ]
  refine AW.seq ?_
  refine AW.seq (AW.reg cd108_1 fun K hK => ?_)
  simp only [g108_1, useR, bR, Nat.reduceEqDiff, reduceIte, Int.reduceBNe, Int.reduceBEq]
  refine .done (hK _ ?_); clear hK K; simp only [thenQ, blockQ]
  refine AW.block (AW.loop (fun i : Nat => mkA [(0, enc l), (1, .func f caps), (7, .int .i64 l.length), (8, .int .i64 i)] []) (fun i => i ≤ l.length ∧ ∀ x ∈ l.take i, p x = false) (fun i => l.length - i) 0 ⟨Nat.zero_le _, by simp⟩ ?_ (fun i hi => ?_))
  · refine Sub.of_lists ?_ ?_ ?_ ?_ <;> simp [subT, subO, onlyT, onlyO, isIn, look_cons, lookO_cons, lookO_nil, AV.only, AV.onlys, AO.only, onlys_map, onlys_append, e_only, e_int, e_bool, hon]
  · refine AW.seq (AW.reg cd108_2 fun K hK => ?_)
    simp only [g108_2, bR, Nat.reduceEqDiff, reduceIte, Int.reduceBNe, Int.reduceBEq]
    refine .done (hK _ ?_); clear hK K; simp only [thenQ, blockQ]
    refine AW.seq ?_
    refine AW.ite ?_
    simp only [condQ, bR, Nat.reduceEqDiff, reduceIte, Int.reduceBNe, Int.reduceBEq]
    refine ⟨fun h => ?_, fun h => ?_⟩
    · have hlt : i < l.length := by simpa using h
      refine AW.skip ?_; simp only [thenQ, blockQ, reduceIte, Nat.reduceEqDiff]
      refine AW.seq (AW.block ?_)
      refine AW.seq (AW.reg cd108_3 fun K hK => ?_)
      simp only [g108_3, bR, Nat.reduceEqDiff, reduceIte, Int.reduceBNe, Int.reduceBEq]
      refine .done (hK _ ?_); clear hK K; simp only [thenQ, blockQ]
      refine AW.seq (AW.reg cd108_4 fun K hK => ?_)
      simp only [g108_4, bR, Nat.reduceEqDiff, reduceIte, Int.reduceBNe, Int.reduceBEq]
      simp only [isE_nat 7 hlt rfl, typR, okR, List.cons_append, hfc, e_fin, bR, Nat.reduceEqDiff, reduceIte, Int.reduceBNe, Int.reduceBEq]
      refine .flat _ (hf _ (List.getElem_mem hlt)) rfl ?_
      simp only [bR, Nat.reduceEqDiff, reduceIte, Int.reduceBNe, Int.reduceBEq]
      refine .done (hK _ ?_); clear hK K; simp only [thenQ, blockQ]
      refine AW.ite ?_
      simp only [condQ, bR, Nat.reduceEqDiff, reduceIte, Int.reduceBNe, Int.reduceBEq]
      refine ⟨fun h => ?_, fun h => ?_⟩
      · refine AW.seq (AW.reg cd108_5 fun K hK => ?_)
        simp only [g108_5, bR, Nat.reduceEqDiff, reduceIte, Int.reduceBNe, Int.reduceBEq]
        refine .done (hK _ ?_); clear hK K; simp only [thenQ, blockQ]
        refine AW.ret ?_
        simp only [blockQ, thenQ, bR, Nat.reduceEqDiff, reduceIte, Int.reduceBNe, Int.reduceBEq]
        simp [findIdx?_some_at hlt hi.2 h]
      · refine AW.skip ?_; simp only [thenQ, blockQ, reduceIte, Nat.reduceEqDiff]
        refine AW.reg cd108_6 fun K hK => ?_
        simp only [g108_6, bR, Nat.reduceEqDiff, reduceIte, Int.reduceBNe, Int.reduceBEq]
        refine .done (hK _ ?_); clear hK K; simp only [thenQ, blockQ]
        refine ⟨i + 1, ⟨by omega, fun x hm => ?_⟩, by omega, ?_⟩
        · rw [List.take_succ_eq_append_getElem hlt] at hm
          rcases List.mem_append.1 hm with hm | hm
          · exact hi.2 x hm
          · simp at hm; rw [hm]; exact h
        · rw [wrap_id _ (by omega) (by omega)]
          refine Sub.of_lists ?_ ?_ ?_ ?_ <;> simp [subT, subO, onlyT, onlyO, isIn, look_cons, lookO_cons, lookO_nil, AV.only, AV.onlys, AO.only, onlys_map, onlys_append, e_only, e_int, e_bool, hon]
    · have hge : i = l.length := by simp at h; omega
      refine AW.exit ?_; simp only [thenQ, blockQ, reduceIte, Nat.reduceEqDiff]
      refine AW.seq (AW.reg cd108_7 fun K hK => ?_)
      simp only [g108_7, bR, Nat.reduceEqDiff, reduceIte, Int.reduceBNe, Int.reduceBEq]
      refine .done (hK _ ?_); clear hK K; simp only [thenQ, blockQ]
      refine AW.ret ?_
      simp only [blockQ, thenQ, bR, Nat.reduceEqDiff, reduceIte, Int.reduceBNe, Int.reduceBEq]
      simp [hge] at hi
      simp [findIdx?_none_take hi]

theorem findIdx?_any {α : Type} (p : α → Bool) (l : List α) : decide (0 ≤ (match l.findIdx? p with | some i => (i : Int) | none => -1)) = l.any p := by
  cases h : l.findIdx? p with
  | none =>
    rw [List.findIdx?_eq_none_iff] at h
    have : l.any p = false := by rw [List.any_eq_false]; intro x hx; simp [h x hx]
    simp [this]
  | some i =>
    rw [List.findIdx?_eq_some_iff_getElem] at h
    obtain ⟨h1, h2, _⟩ := h
    have : l.any p = true := by rw [List.any_eq_true]; exact ⟨_, List.getElem_mem h1, h2⟩
    rw [this]
    exact decide_eq_true (Int.natCast_nonneg i)

theorem F119 (l : List Given) (f : FuncId) (caps : List AV) (hcaps : AV.dones caps = true) (p : Given → Bool) (hf : ∀ x ∈ l, Ctr Try.prog f (enc x :: caps) (enc (p x))) : Ctr Try.prog 119 [enc l, .func f caps] (enc (l.any p)) := by
  refine Ctr.mk' Try.func119 ca119 cc119 cr119 (Nat.le_of_ble_eq_true rfl) (fun hwf W0 D0 E1 => ?_)
  simp only [c119, r119, idx, Nat.zero_add, Nat.reduceAdd]
  have hcl : AV.closeds caps = true := dones_closed caps hcaps
  have hfc : ∀ bx A, fins bx A caps = some caps := fun bx A => fins_dones bx A caps hcaps
  refine AW.seq (AW.reg cd119_0 fun K hK => ?_)
  simp only [g119_0, bR, Nat.reduceEqDiff, reduceIte, Int.reduceBNe, Int.reduceBEq]
  refine .done (hK _ ?_); clear hK K; simp only [thenQ, blockQ]
  refine AW.seq (AW.reg cd119_1 fun K hK => ?_)
  simp only [g119_1, bR, Nat.reduceEqDiff, reduceIte, Int.reduceBNe, Int.reduceBEq]
  simp only [e_fin, hfc, bR, Nat.reduceEqDiff, reduceIte, Int.reduceBNe, Int.reduceBEq]
  refine .flat _ (F108 l f caps hcaps p hf) rfl ?_
  simp only [bR, Nat.reduceEqDiff, reduceIte, Int.reduceBNe, Int.reduceBEq]
  refine .done (hK _ ?_); clear hK K; simp only [thenQ, blockQ]
  refine AW.ret ?_
  simp only [blockQ, thenQ, bR, Nat.reduceEqDiff, reduceIte, Int.reduceBNe, Int.reduceBEq]
  rw [findIdx?_any]

theorem F98 (m : Marks) (l : List Given) (k : Arr 6 Int) (hl : ∀ g ∈ l, okMark g.mark = true) (hk : okMark k = true) : Ctr Try.prog 98 [enc m, enc l, enc k] (enc (!l.any fun g => tooNear m g.mark k)) := by
  refine Ctr.mk' Try.func98 ca98 cc98 cr98 (Nat.le_of_ble_eq_true rfl) (fun hwf W0 D0 E1 => ?_)
  simp only [c98, r98, idx, Nat.zero_add, Nat.reduceAdd]
  refine AW.seq (AW.reg cd98_0 fun K hK => ?_)
  simp only [g98_0, bR, Nat.reduceEqDiff, reduceIte, Int.reduceBNe, Int.reduceBEq]
  simp only [e_isVal, bR, Nat.reduceEqDiff, reduceIte, Int.reduceBNe, Int.reduceBEq]
  refine .done (hK _ ?_); clear hK K; simp only [thenQ, blockQ]
  refine AW.seq (AW.reg cd98_1 fun K hK => ?_)
  simp only [g98_1, bR, Nat.reduceEqDiff, reduceIte, Int.reduceBNe, Int.reduceBEq]
  simp only [List.all_cons, List.all_nil, AV.isVal, Bool.and_self, e_closed, e_fin, bR, Nat.reduceEqDiff, reduceIte, Int.reduceBNe, Int.reduceBEq]
  refine .flat _ (F119 l 120 [.ref (enc m), .ref (enc k)] ?_ (fun g => tooNear m g.mark k) (fun g hg => F120 m g k (hl g hg) hk)) rfl ?_
  · simp only [AV.dones, AV.done, e_closed, Bool.and_self]
  simp only [bR, Nat.reduceEqDiff, reduceIte, Int.reduceBNe, Int.reduceBEq]
  refine .done (hK _ ?_); clear hK K; simp only [thenQ, blockQ]
  refine AW.ret ?_
  simp only [blockQ, thenQ, bR, Nat.reduceEqDiff, reduceIte, Int.reduceBNe, Int.reduceBEq]

theorem slE_take {α : Type} [Enc α] {A : AState} (esz : Nat) {l : List α} {i : Nat} (h : i ≤ l.length) (hs : Enc.sz α = esz) : slE A esz none (some (.int .i64 i)) none (enc l) = some (enc (l.take i)) := by
  simp only [slE, e_list, hs, if_true, sliceOf, bound, List.length_map]
  rw [if_pos ⟨by omega, by omega, by omega, by omega⟩]
  simp

theorem any_take (m : Marks) (k : Arr 6 Int) {i : Nat} (h : i ≤ m.given.length) : (!(m.given.take i).any fun g => tooNear m g.mark k) = (List.range i).all (fun j => !tooNear m (gv m j).mark k) := by
  rw [Bool.eq_iff_iff]
  simp only [Bool.not_eq_true', List.any_eq_false, List.all_eq_true, List.mem_range]
  constructor
  · intro h1 j hj
    have hjl : j < m.given.length := by omega
    have := h1 m.given[j] (by rw [List.mem_take_iff_getElem]; exact ⟨j, by omega, rfl⟩)
    rw [gv_eq hjl] at this
    simpa using this
  · intro h1 g hg
    rw [List.mem_take_iff_getElem] at hg
    obtain ⟨j, hj, rfl⟩ := hg
    have hjl : j < m.given.length := by omega
    rw [gv_eq hjl]
    simpa using h1 j (by omega)

theorem F47 (m : Marks) : Ctr Try.prog 47 [enc m] (enc (if okM m then (0 : Int) else 13)) := by
  refine Ctr.mk' Try.func47 ca47 cc47 cr47 (Nat.le_of_ble_eq_true rfl) (fun hwf W0 D0 E1 => ?_)
  simp only [c47, r47, idx, Nat.zero_add, Nat.reduceAdd]
  refine AW.seq (AW.reg cd47_0 fun K hK => ?_)
  simp only [g47_0, bR, Nat.reduceEqDiff, reduceIte, Int.reduceBNe, Int.reduceBEq]
  simp only [e_isVal, bR, Nat.reduceEqDiff, reduceIte, Int.reduceBNe, Int.reduceBEq]
  refine .done (hK _ ?_); clear hK K; simp only [thenQ, blockQ]
  refine AW.seq (AW.seq ?_)
  refine AW.reg cd47_1 fun K hK => ?_
  simp only [g47_1, bR, Nat.reduceEqDiff, reduceIte, Int.reduceBNe, Int.reduceBEq]
  simp only [typR, useR, okR, e_fin, bR, Nat.reduceEqDiff, reduceIte, Int.reduceBNe, Int.reduceBEq]
  refine .flat _ (F95 m.wear) rfl ?_
  generalize hw : okWear m.wear = bw
  cases bw
  · simp only [typR, useR, okR, bR, Nat.reduceEqDiff, reduceIte, Int.reduceBNe, Int.reduceBEq]
    refine .done (hK _ ?_); clear hK K; simp only [thenQ, blockQ]
    refine AW.ite ?_
    simp only [condQ, bR, Nat.reduceEqDiff, reduceIte, Int.reduceBNe, Int.reduceBEq]
    refine ⟨fun h => ?_, fun h => ?_⟩
    · refine AW.seq (AW.reg cd47_2 fun K hK => ?_)
      simp only [g47_2, bR, Nat.reduceEqDiff, reduceIte, Int.reduceBNe, Int.reduceBEq]
      refine .done (hK _ ?_); clear hK K; simp only [thenQ, blockQ]
      refine AW.ret ?_
      simp only [blockQ, thenQ, bR, Nat.reduceEqDiff, reduceIte, Int.reduceBNe, Int.reduceBEq]
      simp [okM, hw]
    · cases h
  simp only [typR, useR, okR, bR, Nat.reduceEqDiff, reduceIte, Int.reduceBNe, Int.reduceBEq]
  refine .flat _ (F89 m.fls 0 2) rfl ?_
  generalize hf : inR 0 2 m.fls = bf
  cases bf
  · simp only [typR, useR, okR, bR, Nat.reduceEqDiff, reduceIte, Int.reduceBNe, Int.reduceBEq]
    refine .done (hK _ ?_); clear hK K; simp only [thenQ, blockQ]
    refine AW.ite ?_
    simp only [condQ, bR, Nat.reduceEqDiff, reduceIte, Int.reduceBNe, Int.reduceBEq]
    refine ⟨fun h => ?_, fun h => ?_⟩
    · refine AW.seq (AW.reg cd47_2 fun K hK => ?_)
      simp only [g47_2, bR, Nat.reduceEqDiff, reduceIte, Int.reduceBNe, Int.reduceBEq]
      refine .done (hK _ ?_); clear hK K; simp only [thenQ, blockQ]
      refine AW.ret ?_
      simp only [blockQ, thenQ, bR, Nat.reduceEqDiff, reduceIte, Int.reduceBNe, Int.reduceBEq]
      simp [okM, hw, hf]
    · cases h
  simp only [typR, useR, okR, bR, Nat.reduceEqDiff, reduceIte, Int.reduceBNe, Int.reduceBEq]
  refine .done (hK _ ?_); clear hK K; simp only [thenQ, blockQ]
  refine AW.ite ?_
  simp only [condQ, bR, Nat.reduceEqDiff, reduceIte, Int.reduceBNe, Int.reduceBEq]
  refine ⟨fun h => ?_, fun h => ?_⟩
  · refine AW.seq (AW.reg cd47_2 fun K hK => ?_)
    simp only [g47_2, bR, Nat.reduceEqDiff, reduceIte, Int.reduceBNe, Int.reduceBEq]
    refine .done (hK _ ?_); clear hK K; simp only [thenQ, blockQ]
    refine AW.ret ?_
    simp only [blockQ, thenQ, bR, Nat.reduceEqDiff, reduceIte, Int.reduceBNe, Int.reduceBEq]
    have : ¬ m.given.length ≤ 40 := by simp at h; omega
    simp [okM, hw, hf, this]
  have hlen : m.given.length ≤ 40 := by simp at h; omega
  refine AW.skip ?_; simp only [thenQ, blockQ, reduceIte, Nat.reduceEqDiff]
  refine AW.seq (AW.seq ?_)
  refine AW.reg cd47_3 fun K hK => ?_
  simp only [g47_3, typR, useR, okR, bR, Nat.reduceEqDiff, reduceIte, Int.reduceBNe, Int.reduceBEq]
  refine .done (hK _ ?_); clear hK K; simp only [thenQ, blockQ]
  refine AW.block (AW.loop (fun i : Nat => mkA [(1, .ptr 1 []), (22, enc m.given), (23, .int .i64 m.given.length), (24, .int .i64 i)] [(1, .box (enc m))]) (fun i => i ≤ m.given.length ∧ ∀ j, j < i → okAt m j = true) (fun i => m.given.length - i) 0 ⟨by omega, fun k h => by omega⟩ ?_ (fun i hi => ?_))
  · refine Sub.of_lists ?_ ?_ ?_ ?_ <;> simp [subT, subO, onlyT, onlyO, isIn, look_cons, lookO_cons, lookO_nil, AV.only, AV.onlys, AO.only, onlys_map, onlys_append, e_only, e_int, e_bool]
  refine AW.seq (AW.reg cd47_4 fun K hK => ?_)
  simp only [g47_4, bR, Nat.reduceEqDiff, reduceIte, Int.reduceBNe, Int.reduceBEq]
  refine .done (hK _ ?_); clear hK K; simp only [thenQ, blockQ]
  refine AW.seq ?_
  refine AW.ite ?_
  simp only [condQ, bR, Nat.reduceEqDiff, reduceIte, Int.reduceBNe, Int.reduceBEq]
  refine ⟨fun h => ?_, fun h => ?_⟩
  case refine_2.refine_2 =>
    have hge : i = m.given.length := by simp at h; omega
    subst hge
    refine AW.exit ?_; simp only [thenQ, blockQ, reduceIte, Nat.reduceEqDiff]
    refine AW.seq (AW.reg cd47_9 fun K hK => ?_)
    simp only [g47_9, bR, Nat.reduceEqDiff, reduceIte, Int.reduceBNe, Int.reduceBEq]
    refine .done (hK _ ?_); clear hK K; simp only [thenQ, blockQ]
    refine AW.ret ?_
    simp only [blockQ, thenQ, bR, Nat.reduceEqDiff, reduceIte, Int.reduceBNe, Int.reduceBEq]
    have : (List.range m.given.length).all (okAt m) = true := all_true hi.2
    simp [okM, hw, hf, this, hlen]
  have hlt : i < m.given.length := by simpa using h
  refine AW.skip ?_; simp only [thenQ, blockQ, reduceIte, Nat.reduceEqDiff]
  refine AW.seq (AW.block ?_)
  refine AW.seq (AW.reg cd47_5 fun K hK => ?_)
  simp only [g47_5, bR, Nat.reduceEqDiff, reduceIte, Int.reduceBNe, Int.reduceBEq]
  simp only [typR, useR, okR, isE_gv hlt, bR, Nat.reduceEqDiff, reduceIte, Int.reduceBNe, Int.reduceBEq]
  rw [stR3_ok (e_isVal _) (by rw [e_okS]; rfl) ((e_sh _).trans rfl)]
  simp only [typR, useR, okR, bR, Nat.reduceEqDiff, reduceIte, Int.reduceBNe, Int.reduceBEq]
  refine .done (hK _ ?_); clear hK K; simp only [thenQ, blockQ]
  have bad : ∀ b, okAt m i = b → b = false → (if okM m then (0 : Int) else 13) = 13 := fun b h1 h2 => by
    have : (List.range m.given.length).all (okAt m) = false := all_false i hlt (by rw [h1, h2])
    simp [okM, this]
  have htake : ∀ g ∈ m.given.take i, okMark g.mark = true := fun g hg => by
    rw [List.mem_take_iff_getElem] at hg
    obtain ⟨j, hj, rfl⟩ := hg
    have hjl : j < m.given.length := by omega
    rw [gv_eq hjl]
    exact okAt_mark (hi.2 j (by omega))
  refine AW.seq (AW.reg cd47_6 fun K hK => ?_)
  simp only [g47_6, bR, Nat.reduceEqDiff, reduceIte, Int.reduceBNe, Int.reduceBEq]
  simp only [typR, useR, okR, e_fin, bR, Nat.reduceEqDiff, reduceIte, Int.reduceBNe, Int.reduceBEq]
  refine .flat _ (F97 (gv m i).owner) rfl ?_
  generalize ho : inR 1 99 (gv m i).owner = bo
  cases bo
  · simp only [typR, useR, okR, bR, Nat.reduceEqDiff, reduceIte, Int.reduceBNe, Int.reduceBEq]
    refine .done (hK _ ?_); clear hK K; simp only [thenQ, blockQ]
    refine AW.ite ?_
    simp only [condQ, bR, Nat.reduceEqDiff, reduceIte, Int.reduceBNe, Int.reduceBEq]
    refine ⟨fun h => ?_, fun h => ?_⟩
    · refine AW.seq (AW.reg cd47_7 fun K hK => ?_)
      simp only [g47_7, bR, Nat.reduceEqDiff, reduceIte, Int.reduceBNe, Int.reduceBEq]
      refine .done (hK _ ?_); clear hK K; simp only [thenQ, blockQ]
      refine AW.ret ?_
      simp only [blockQ, thenQ, bR, Nat.reduceEqDiff, reduceIte, Int.reduceBNe, Int.reduceBEq]
      rw [bad _ rfl (by simp [okAt, ho])]
    · cases h
  simp only [typR, useR, okR, e_fin, bR, Nat.reduceEqDiff, reduceIte, Int.reduceBNe, Int.reduceBEq]
  refine .flat _ (F93 (gv m i).mark) rfl ?_
  generalize hk : okMark (gv m i).mark = bk
  cases bk
  · simp only [typR, useR, okR, bR, Nat.reduceEqDiff, reduceIte, Int.reduceBNe, Int.reduceBEq]
    refine .done (hK _ ?_); clear hK K; simp only [thenQ, blockQ]
    refine AW.ite ?_
    simp only [condQ, bR, Nat.reduceEqDiff, reduceIte, Int.reduceBNe, Int.reduceBEq]
    refine ⟨fun h => ?_, fun h => ?_⟩
    · refine AW.seq (AW.reg cd47_7 fun K hK => ?_)
      simp only [g47_7, bR, Nat.reduceEqDiff, reduceIte, Int.reduceBNe, Int.reduceBEq]
      refine .done (hK _ ?_); clear hK K; simp only [thenQ, blockQ]
      refine AW.ret ?_
      simp only [blockQ, thenQ, bR, Nat.reduceEqDiff, reduceIte, Int.reduceBNe, Int.reduceBEq]
      rw [bad _ rfl (by simp [okAt, ho, hk])]
    · cases h
  simp only [typR, useR, okR, bR, Nat.reduceEqDiff, reduceIte, Int.reduceBNe, Int.reduceBEq]
  generalize hz : decide (0 < (i : Int)) = bz
  cases bz
  · have hprev : (i == 0 || decide ((gv m (i - 1)).owner < (gv m i).owner)) = true := by simp at hz; simp [hz]
    simp only [typR, useR, okR, bR, Nat.reduceEqDiff, reduceIte, Int.reduceBNe, Int.reduceBEq]
    simp only [typR, useR, okR, e_fin, slE_take 7 (Nat.le_of_lt hlt) rfl, Option.map_none, bR, Nat.reduceEqDiff, reduceIte, Int.reduceBNe, Int.reduceBEq]
    refine .flat _ (F98 m (m.given.take i) (gv m i).mark htake hk) rfl ?_
    rw [any_take m (gv m i).mark (Nat.le_of_lt hlt)]
    generalize hap : (List.range i).all (fun j => !tooNear m (gv m j).mark (gv m i).mark) = ba
    cases ba
    · simp only [typR, useR, okR, bR, Nat.reduceEqDiff, reduceIte, Int.reduceBNe, Int.reduceBEq]
      refine .done (hK _ ?_); clear hK K; simp only [thenQ, blockQ]
      refine AW.ite ?_
      simp only [condQ, bR, Nat.reduceEqDiff, reduceIte, Int.reduceBNe, Int.reduceBEq]
      refine ⟨fun h => ?_, fun h => ?_⟩
      · refine AW.seq (AW.reg cd47_7 fun K hK => ?_)
        simp only [g47_7, bR, Nat.reduceEqDiff, reduceIte, Int.reduceBNe, Int.reduceBEq]
        refine .done (hK _ ?_); clear hK K; simp only [thenQ, blockQ]
        refine AW.ret ?_
        simp only [blockQ, thenQ, bR, Nat.reduceEqDiff, reduceIte, Int.reduceBNe, Int.reduceBEq]
        rw [bad _ rfl (by simp only [okAt, hap, Bool.and_false])]
      · cases h
    · simp only [typR, useR, okR, bR, Nat.reduceEqDiff, reduceIte, Int.reduceBNe, Int.reduceBEq]
      refine .done (hK _ ?_); clear hK K; simp only [thenQ, blockQ]
      refine AW.ite ?_
      simp only [condQ, bR, Nat.reduceEqDiff, reduceIte, Int.reduceBNe, Int.reduceBEq]
      refine ⟨fun h => ?_, fun h => ?_⟩
      · cases h
      refine AW.skip ?_; simp only [thenQ, blockQ, reduceIte, Nat.reduceEqDiff]
      refine AW.reg cd47_8 fun K hK => ?_
      simp only [g47_8, bR, Nat.reduceEqDiff, reduceIte, Int.reduceBNe, Int.reduceBEq]
      refine .done (hK _ ?_); clear hK K; simp only [thenQ, blockQ]
      refine ⟨i + 1, ⟨by omega, fun k hk' => ?_⟩, by omega, ?_⟩
      · by_cases hki : k = i
        · rw [hki]
          simp only [okAt, ho, hk, hprev, hap, Bool.and_self]
        · exact hi.2 k (by omega)
      · rw [wrap_id _ (by omega) (by omega)]
        refine Sub.of_lists ?_ ?_ ?_ ?_ <;> simp [subT, subO, onlyT, onlyO, isIn, look_cons, lookO_cons, lookO_nil, AV.only, AV.onlys, AO.only, onlys_map, onlys_append, e_only, e_int, e_bool]
  · have hpos : 0 < i := by simpa using hz
    have hpl : i - 1 < m.given.length := by omega
    have hpred : IntKind.i64.wrap ((i : Int) - 1) = ((i - 1 : Nat) : Int) := by rw [wrap_id _ (by omega) (by omega)]; omega
    simp only [typR, useR, okR, hpred, isE_gv hpl, bR, Nat.reduceEqDiff, reduceIte, Int.reduceBNe, Int.reduceBEq]
    generalize hq : decide ((gv m i).owner ≤ (gv m (i - 1)).owner) = bq
    cases bq
    · have hprev : (i == 0 || decide ((gv m (i - 1)).owner < (gv m i).owner)) = true := by simp at hq; simp; omega
      simp only [typR, useR, okR, bR, Nat.reduceEqDiff, reduceIte, Int.reduceBNe, Int.reduceBEq]
      simp only [typR, useR, okR, e_fin, slE_take 7 (Nat.le_of_lt hlt) rfl, Option.map_none, bR, Nat.reduceEqDiff, reduceIte, Int.reduceBNe, Int.reduceBEq]
      refine .flat _ (F98 m (m.given.take i) (gv m i).mark htake hk) rfl ?_
      rw [any_take m (gv m i).mark (Nat.le_of_lt hlt)]
      generalize hap : (List.range i).all (fun j => !tooNear m (gv m j).mark (gv m i).mark) = ba
      cases ba
      · simp only [typR, useR, okR, bR, Nat.reduceEqDiff, reduceIte, Int.reduceBNe, Int.reduceBEq]
        refine .done (hK _ ?_); clear hK K; simp only [thenQ, blockQ]
        refine AW.ite ?_
        simp only [condQ, bR, Nat.reduceEqDiff, reduceIte, Int.reduceBNe, Int.reduceBEq]
        refine ⟨fun h => ?_, fun h => ?_⟩
        · refine AW.seq (AW.reg cd47_7 fun K hK => ?_)
          simp only [g47_7, bR, Nat.reduceEqDiff, reduceIte, Int.reduceBNe, Int.reduceBEq]
          refine .done (hK _ ?_); clear hK K; simp only [thenQ, blockQ]
          refine AW.ret ?_
          simp only [blockQ, thenQ, bR, Nat.reduceEqDiff, reduceIte, Int.reduceBNe, Int.reduceBEq]
          rw [bad _ rfl (by simp only [okAt, hap, Bool.and_false])]
        · cases h
      · simp only [typR, useR, okR, bR, Nat.reduceEqDiff, reduceIte, Int.reduceBNe, Int.reduceBEq]
        refine .done (hK _ ?_); clear hK K; simp only [thenQ, blockQ]
        refine AW.ite ?_
        simp only [condQ, bR, Nat.reduceEqDiff, reduceIte, Int.reduceBNe, Int.reduceBEq]
        refine ⟨fun h => ?_, fun h => ?_⟩
        · cases h
        refine AW.skip ?_; simp only [thenQ, blockQ, reduceIte, Nat.reduceEqDiff]
        refine AW.reg cd47_8 fun K hK => ?_
        simp only [g47_8, bR, Nat.reduceEqDiff, reduceIte, Int.reduceBNe, Int.reduceBEq]
        refine .done (hK _ ?_); clear hK K; simp only [thenQ, blockQ]
        refine ⟨i + 1, ⟨by omega, fun k hk' => ?_⟩, by omega, ?_⟩
        · by_cases hki : k = i
          · rw [hki]
            simp only [okAt, ho, hk, hprev, hap, Bool.and_self]
          · exact hi.2 k (by omega)
        · rw [wrap_id _ (by omega) (by omega)]
          refine Sub.of_lists ?_ ?_ ?_ ?_ <;> simp [subT, subO, onlyT, onlyO, isIn, look_cons, lookO_cons, lookO_nil, AV.only, AV.onlys, AO.only, onlys_map, onlys_append, e_only, e_int, e_bool]
    · simp only [typR, useR, okR, bR, Nat.reduceEqDiff, reduceIte, Int.reduceBNe, Int.reduceBEq]
      refine .done (hK _ ?_); clear hK K; simp only [thenQ, blockQ]
      refine AW.ite ?_
      simp only [condQ, bR, Nat.reduceEqDiff, reduceIte, Int.reduceBNe, Int.reduceBEq]
      refine ⟨fun h => ?_, fun h => ?_⟩
      · refine AW.seq (AW.reg cd47_7 fun K hK => ?_)
        simp only [g47_7, bR, Nat.reduceEqDiff, reduceIte, Int.reduceBNe, Int.reduceBEq]
        refine .done (hK _ ?_); clear hK K; simp only [thenQ, blockQ]
        refine AW.ret ?_
        simp only [blockQ, thenQ, bR, Nat.reduceEqDiff, reduceIte, Int.reduceBNe, Int.reduceBEq]
        have : (i == 0 || decide ((gv m (i - 1)).owner < (gv m i).owner)) = false := by simp at hq; simp; omega
        rw [bad _ rfl (by simp only [okAt, this, Bool.and_false, Bool.false_and])]
      · cases h

end Go.Proofs.Ytkjkbpgdpnapfaa

/-
  FUNCTIONS OF THE PACKAGE mark BY CONTRACT: first, Cost, Distance, Possible, asked.
-/
namespace Go.Proofs.Ytkjkbpgdpnapfaa
open Go Go.Abs
open Go.Abs.Enc (enc)

def firstOf (l : List Int) : Int := (l.find? fun x => x != 0).getD 0

theorem F64 (l : List Int) : Ctr Try.prog 64 [enc l] (enc (firstOf l)) := by
  refine Ctr.mk' Try.func64 ca64 cc64 cr64 (Nat.le_of_ble_eq_true rfl) (fun hwf W0 D0 E1 => ?_)
  simp only [c64, r64, idx, Nat.zero_add, Nat.reduceAdd]
  have hlen : l.length ≤ maxLen := ((wf_list l).1 hwf.1).1
  simp only [maxLen] at hlen
  refine AW.seq (AW.reg cd64_0 fun K hK => ?_)
  simp only [g64_0, bR, Nat.reduceEqDiff, reduceIte, Int.reduceBNe, Int.reduceBEq]
  refine .done (hK _ ?_); clear hK K; simp only [thenQ, blockQ]
  refine AW.seq ?_
  refine AW.seq (AW.reg cd64_1 fun K hK => ?_)
  simp only [g64_1, useR, bR, Nat.reduceEqDiff, reduceIte, Int.reduceBNe, Int.reduceBEq]
  refine .done (hK _ ?_); clear hK K; simp only [thenQ, blockQ]
  refine AW.block (AW.loop (fun i : Nat => mkA [(5, enc l), (6, .int .i64 l.length), (7, .int .i64 i)] []) (fun i => i ≤ l.length ∧ ∀ x ∈ l.take i, x = 0) (fun i => l.length - i) 0 ⟨Nat.zero_le _, by simp⟩ ?_ (fun i hi => ?_))
  · refine Sub.of_lists ?_ ?_ ?_ ?_ <;> simp [subT, subO, onlyT, onlyO, isIn, look_cons, lookO_cons, lookO_nil, AV.only, AV.onlys, AO.only, onlys_map, onlys_append, e_only, e_int, e_bool]
  · refine AW.seq (AW.reg cd64_2 fun K hK => ?_)
    simp only [g64_2, bR, Nat.reduceEqDiff, reduceIte, Int.reduceBNe, Int.reduceBEq]
    refine .done (hK _ ?_); clear hK K; simp only [thenQ, blockQ]
    refine AW.seq ?_
    refine AW.ite ?_
    simp only [condQ, bR, Nat.reduceEqDiff, reduceIte, Int.reduceBNe, Int.reduceBEq]
    refine ⟨fun h => ?_, fun h => ?_⟩
    · have hlt : i < l.length := by simpa using h
      refine AW.skip ?_; simp only [thenQ, blockQ, reduceIte, Nat.reduceEqDiff]
      refine AW.seq (AW.block ?_)
      refine AW.seq (AW.reg cd64_3 fun K hK => ?_)
      simp only [g64_3, bR, Nat.reduceEqDiff, reduceIte, Int.reduceBNe, Int.reduceBEq]
      simp only [isE_nat 1 hlt rfl, okR, bR, Nat.reduceEqDiff, reduceIte, Int.reduceBNe, Int.reduceBEq]
      refine .done (hK _ ?_); clear hK K; simp only [thenQ, blockQ]
      refine AW.seq (AW.reg cd64_4 fun K hK => ?_)
      simp only [g64_4, bR, Nat.reduceEqDiff, reduceIte, Int.reduceBNe, Int.reduceBEq]
      refine .done (hK _ ?_); clear hK K; simp only [thenQ, blockQ]
      refine AW.ite ?_
      simp only [condQ, bR, Nat.reduceEqDiff, reduceIte, Int.reduceBNe, Int.reduceBEq]
      refine ⟨fun h => ?_, fun h => ?_⟩
      · refine AW.seq (AW.reg cd64_5 fun K hK => ?_)
        simp only [g64_5, bR, Nat.reduceEqDiff, reduceIte, Int.reduceBNe, Int.reduceBEq]
        refine .done (hK _ ?_); clear hK K; simp only [thenQ, blockQ]
        refine AW.ret ?_
        simp only [blockQ, thenQ, bR, Nat.reduceEqDiff, reduceIte, Int.reduceBNe, Int.reduceBEq]
        have h1 : l[i] ≠ 0 := by simpa using h
        have h2 : l.find? (fun x => x != 0) = some l[i] := by
          rw [List.find?_eq_some_iff_getElem]
          refine ⟨by simpa using h1, i, hlt, rfl, fun j hj => ?_⟩
          have := hi.2 l[j] (by rw [List.mem_take_iff_getElem]; exact ⟨j, by omega, rfl⟩)
          simp [this]
        simp [firstOf, h2]
      · refine AW.skip ?_; simp only [thenQ, blockQ, reduceIte, Nat.reduceEqDiff]
        refine AW.reg cd64_6 fun K hK => ?_
        simp only [g64_6, bR, Nat.reduceEqDiff, reduceIte, Int.reduceBNe, Int.reduceBEq]
        refine .done (hK _ ?_); clear hK K; simp only [thenQ, blockQ]
        refine ⟨i + 1, ⟨by omega, fun x hm => ?_⟩, by omega, ?_⟩
        · rw [List.take_succ_eq_append_getElem hlt] at hm
          rcases List.mem_append.1 hm with hm | hm
          · exact hi.2 x hm
          · simp at hm h; rw [hm]; exact h
        · rw [wrap_id _ (by omega) (by omega)]
          refine Sub.of_lists ?_ ?_ ?_ ?_ <;> simp [subT, subO, onlyT, onlyO, isIn, look_cons, lookO_cons, lookO_nil, AV.only, AV.onlys, AO.only, onlys_map, onlys_append, e_only, e_int, e_bool]
    · have hge : i = l.length := by simp at h; omega
      refine AW.exit ?_; simp only [thenQ, blockQ, reduceIte, Nat.reduceEqDiff]
      refine AW.seq (AW.reg cd64_7 fun K hK => ?_)
      simp only [g64_7, bR, Nat.reduceEqDiff, reduceIte, Int.reduceBNe, Int.reduceBEq]
      refine .done (hK _ ?_); clear hK K; simp only [thenQ, blockQ]
      refine AW.ret ?_
      simp only [blockQ, thenQ, bR, Nat.reduceEqDiff, reduceIte, Int.reduceBNe, Int.reduceBEq]
      simp [hge] at hi
      have h2 : l.find? (fun x => x != 0) = none := by
        rw [List.find?_eq_none]; intro x hx; simp [hi x hx]
      simp [firstOf, h2]

theorem bs2 (a b : Int) : bsE 1 (some [.int .i64 a, .int .i64 b]) = some (enc [a, b]) := bsE_enc (ys := [a, b]) 1 rfl
theorem bs3 (a b c : Int) : bsE 1 (some [.int .i64 a, .int .i64 b, .int .i64 c]) = some (enc [a, b, c]) := bsE_enc (ys := [a, b, c]) 1 rfl

theorem first3 (a b c : Bool) (x y z : Int) (hx : x ≠ 0) (hy : y ≠ 0) (hz : z ≠ 0) : firstOf [if a then 0 else x, if b then 0 else y, if c then 0 else z] = if a then (if b then (if c then 0 else z) else y) else x := by
  cases a <;> cases b <;> cases c <;> simp [firstOf, hx, hy, hz]
theorem first2 (a b : Bool) (x y : Int) (hx : x ≠ 0) (hy : y ≠ 0) : firstOf [if a then 0 else x, if b then 0 else y] = if a then (if b then 0 else y) else x := by
  cases a <;> cases b <;> simp [firstOf, hx, hy]

theorem F36 (w : Arr 5 Int) (a b : Arr 6 Int) : Ctr Try.prog 36 [enc w, enc a, enc b] (.tuple [enc (distR w a b).1, enc (distR w a b).2]) := by
  refine Ctr.mk' Try.func36 ca36 cc36 cr36 (Nat.le_of_ble_eq_true rfl) (fun hwf W0 D0 E1 => ?_)
  simp only [c36, r36, idx, Nat.zero_add, Nat.reduceAdd]
  refine AW.seq (AW.reg cd36_0 fun K hK => ?_)
  simp only [g36_0, bR, Nat.reduceEqDiff, reduceIte, Int.reduceBNe, Int.reduceBEq]
  simp only [e_isVal, bR, Nat.reduceEqDiff, reduceIte, Int.reduceBNe, Int.reduceBEq]
  refine .done (hK _ ?_); clear hK K; simp only [thenQ, blockQ]
  refine AW.seq ?_
  refine AW.seq (AW.reg cd36_1 fun K hK => ?_)
  simp only [g36_1, bR, Nat.reduceEqDiff, reduceIte, Int.reduceBNe, Int.reduceBEq]
  simp only [typR, useR, okR, e_fin, bR, Nat.reduceEqDiff, reduceIte, Int.reduceBNe, Int.reduceBEq]
  refine .flat _ (F43 w) rfl ?_
  simp only [typR, useR, okR, e_fin, bR, Nat.reduceEqDiff, reduceIte, Int.reduceBNe, Int.reduceBEq]
  refine .flat _ (F41 a) rfl ?_
  simp only [typR, useR, okR, e_fin, bR, Nat.reduceEqDiff, reduceIte, Int.reduceBNe, Int.reduceBEq]
  refine .flat _ (F41 b) rfl ?_
  simp only [typR, useR, okR, e_fin, bs3, bR, Nat.reduceEqDiff, reduceIte, Int.reduceBNe, Int.reduceBEq]
  refine .flat _ (F64 _) rfl ?_
  rw [first3 _ _ _ 11 10 10 (by decide) (by decide) (by decide)]
  simp only [bR, Nat.reduceEqDiff, reduceIte, Int.reduceBNe, Int.reduceBEq]
  refine .done (hK _ ?_); clear hK K; simp only [thenQ, blockQ]
  generalize hw : okWear w = bw
  generalize ha : okMark a = ba
  generalize hb : okMark b = bb
  cases bw
  · refine AW.seq (AW.reg cd36_2 fun K hK => ?_)
    simp only [g36_2, bR, Nat.reduceEqDiff, reduceIte, Int.reduceBNe, Int.reduceBEq]
    refine .done (hK _ ?_); clear hK K; simp only [thenQ, blockQ]
    refine AW.ite ?_
    simp only [condQ, bR, Nat.reduceEqDiff, reduceIte, Int.reduceBNe, Int.reduceBEq]
    refine ⟨fun h => ?_, fun h => ?_⟩
    · refine AW.seq (AW.reg cd36_3 fun K hK => ?_)
      simp only [g36_3, bR, Nat.reduceEqDiff, reduceIte, Int.reduceBNe, Int.reduceBEq]
      refine .done (hK _ ?_); clear hK K; simp only [thenQ, blockQ]
      refine AW.ret ?_
      simp only [blockQ, thenQ, bR, Nat.reduceEqDiff, reduceIte, Int.reduceBNe, Int.reduceBEq]
      simp [distR, hw]
    · cases h
  cases ba
  · refine AW.seq (AW.reg cd36_2 fun K hK => ?_)
    simp only [g36_2, bR, Nat.reduceEqDiff, reduceIte, Int.reduceBNe, Int.reduceBEq]
    refine .done (hK _ ?_); clear hK K; simp only [thenQ, blockQ]
    refine AW.ite ?_
    simp only [condQ, bR, Nat.reduceEqDiff, reduceIte, Int.reduceBNe, Int.reduceBEq]
    refine ⟨fun h => ?_, fun h => ?_⟩
    · refine AW.seq (AW.reg cd36_3 fun K hK => ?_)
      simp only [g36_3, bR, Nat.reduceEqDiff, reduceIte, Int.reduceBNe, Int.reduceBEq]
      refine .done (hK _ ?_); clear hK K; simp only [thenQ, blockQ]
      refine AW.ret ?_
      simp only [blockQ, thenQ, bR, Nat.reduceEqDiff, reduceIte, Int.reduceBNe, Int.reduceBEq]
      simp [distR, hw, ha]
    · cases h
  cases bb
  · refine AW.seq (AW.reg cd36_2 fun K hK => ?_)
    simp only [g36_2, bR, Nat.reduceEqDiff, reduceIte, Int.reduceBNe, Int.reduceBEq]
    refine .done (hK _ ?_); clear hK K; simp only [thenQ, blockQ]
    refine AW.ite ?_
    simp only [condQ, bR, Nat.reduceEqDiff, reduceIte, Int.reduceBNe, Int.reduceBEq]
    refine ⟨fun h => ?_, fun h => ?_⟩
    · refine AW.seq (AW.reg cd36_3 fun K hK => ?_)
      simp only [g36_3, bR, Nat.reduceEqDiff, reduceIte, Int.reduceBNe, Int.reduceBEq]
      refine .done (hK _ ?_); clear hK K; simp only [thenQ, blockQ]
      refine AW.ret ?_
      simp only [blockQ, thenQ, bR, Nat.reduceEqDiff, reduceIte, Int.reduceBNe, Int.reduceBEq]
      simp [distR, hw, ha, hb]
    · cases h
  refine AW.seq (AW.reg cd36_2 fun K hK => ?_)
  simp only [g36_2, bR, Nat.reduceEqDiff, reduceIte, Int.reduceBNe, Int.reduceBEq]
  refine .done (hK _ ?_); clear hK K; simp only [thenQ, blockQ]
  refine AW.ite ?_
  simp only [condQ, bR, Nat.reduceEqDiff, reduceIte, Int.reduceBNe, Int.reduceBEq]
  refine ⟨fun h => ?_, fun h => ?_⟩
  · cases h
  refine AW.skip ?_; simp only [thenQ, blockQ, reduceIte, Nat.reduceEqDiff]
  refine AW.seq (AW.reg cd36_4 fun K hK => ?_)
  simp only [g36_4, bR, Nat.reduceEqDiff, reduceIte, Int.reduceBNe, Int.reduceBEq]
  simp only [typR, useR, okR, e_fin, bR, Nat.reduceEqDiff, reduceIte, Int.reduceBNe, Int.reduceBEq]
  refine .flat _ (F87 w a b ha hb) rfl ?_
  simp only [bR, Nat.reduceEqDiff, reduceIte, Int.reduceBNe, Int.reduceBEq]
  refine .done (hK _ ?_); clear hK K; simp only [thenQ, blockQ]
  refine AW.ret ?_
  simp only [blockQ, thenQ, bR, Nat.reduceEqDiff, reduceIte, Int.reduceBNe, Int.reduceBEq]
  simp [distR, hw, ha, hb]

theorem F37 (w : Arr 5 Int) (a b : Arr 6 Int) : Ctr Try.prog 37 [enc w, enc a, enc b] (.tuple [enc (costR w a b).1, enc (costR w a b).2]) := by
  refine Ctr.mk' Try.func37 ca37 cc37 cr37 (Nat.le_of_ble_eq_true rfl) (fun hwf W0 D0 E1 => ?_)
  simp only [c37, r37, idx, Nat.zero_add, Nat.reduceAdd]
  refine AW.seq (AW.reg cd37_0 fun K hK => ?_)
  simp only [g37_0, bR, Nat.reduceEqDiff, reduceIte, Int.reduceBNe, Int.reduceBEq]
  simp only [e_isVal, bR, Nat.reduceEqDiff, reduceIte, Int.reduceBNe, Int.reduceBEq]
  refine .done (hK _ ?_); clear hK K; simp only [thenQ, blockQ]
  refine AW.seq ?_
  refine AW.seq (AW.reg cd37_1 fun K hK => ?_)
  simp only [g37_1, bR, Nat.reduceEqDiff, reduceIte, Int.reduceBNe, Int.reduceBEq]
  simp only [typR, useR, okR, e_fin, bR, Nat.reduceEqDiff, reduceIte, Int.reduceBNe, Int.reduceBEq]
  refine .flat _ (F43 w) rfl ?_
  simp only [typR, useR, okR, e_fin, bR, Nat.reduceEqDiff, reduceIte, Int.reduceBNe, Int.reduceBEq]
  refine .flat _ (F41 a) rfl ?_
  simp only [typR, useR, okR, e_fin, bR, Nat.reduceEqDiff, reduceIte, Int.reduceBNe, Int.reduceBEq]
  refine .flat _ (F45 b) rfl ?_
  simp only [typR, useR, okR, e_fin, bs3, bR, Nat.reduceEqDiff, reduceIte, Int.reduceBNe, Int.reduceBEq]
  refine .flat _ (F64 _) rfl ?_
  rw [first3 _ _ _ 11 10 12 (by decide) (by decide) (by decide)]
  simp only [bR, Nat.reduceEqDiff, reduceIte, Int.reduceBNe, Int.reduceBEq]
  refine .done (hK _ ?_); clear hK K; simp only [thenQ, blockQ]
  generalize hw : okWear w = bw
  generalize ha : okMark a = ba
  generalize hb : okReading b = bb
  cases bw
  · refine AW.seq (AW.reg cd37_2 fun K hK => ?_)
    simp only [g37_2, bR, Nat.reduceEqDiff, reduceIte, Int.reduceBNe, Int.reduceBEq]
    refine .done (hK _ ?_); clear hK K; simp only [thenQ, blockQ]
    refine AW.ite ?_
    simp only [condQ, bR, Nat.reduceEqDiff, reduceIte, Int.reduceBNe, Int.reduceBEq]
    refine ⟨fun h => ?_, fun h => ?_⟩
    · refine AW.seq (AW.reg cd37_3 fun K hK => ?_)
      simp only [g37_3, bR, Nat.reduceEqDiff, reduceIte, Int.reduceBNe, Int.reduceBEq]
      refine .done (hK _ ?_); clear hK K; simp only [thenQ, blockQ]
      refine AW.ret ?_
      simp only [blockQ, thenQ, bR, Nat.reduceEqDiff, reduceIte, Int.reduceBNe, Int.reduceBEq]
      simp [costR, hw]
    · cases h
  cases ba
  · refine AW.seq (AW.reg cd37_2 fun K hK => ?_)
    simp only [g37_2, bR, Nat.reduceEqDiff, reduceIte, Int.reduceBNe, Int.reduceBEq]
    refine .done (hK _ ?_); clear hK K; simp only [thenQ, blockQ]
    refine AW.ite ?_
    simp only [condQ, bR, Nat.reduceEqDiff, reduceIte, Int.reduceBNe, Int.reduceBEq]
    refine ⟨fun h => ?_, fun h => ?_⟩
    · refine AW.seq (AW.reg cd37_3 fun K hK => ?_)
      simp only [g37_3, bR, Nat.reduceEqDiff, reduceIte, Int.reduceBNe, Int.reduceBEq]
      refine .done (hK _ ?_); clear hK K; simp only [thenQ, blockQ]
      refine AW.ret ?_
      simp only [blockQ, thenQ, bR, Nat.reduceEqDiff, reduceIte, Int.reduceBNe, Int.reduceBEq]
      simp [costR, hw, ha]
    · cases h
  cases bb
  · refine AW.seq (AW.reg cd37_2 fun K hK => ?_)
    simp only [g37_2, bR, Nat.reduceEqDiff, reduceIte, Int.reduceBNe, Int.reduceBEq]
    refine .done (hK _ ?_); clear hK K; simp only [thenQ, blockQ]
    refine AW.ite ?_
    simp only [condQ, bR, Nat.reduceEqDiff, reduceIte, Int.reduceBNe, Int.reduceBEq]
    refine ⟨fun h => ?_, fun h => ?_⟩
    · refine AW.seq (AW.reg cd37_3 fun K hK => ?_)
      simp only [g37_3, bR, Nat.reduceEqDiff, reduceIte, Int.reduceBNe, Int.reduceBEq]
      refine .done (hK _ ?_); clear hK K; simp only [thenQ, blockQ]
      refine AW.ret ?_
      simp only [blockQ, thenQ, bR, Nat.reduceEqDiff, reduceIte, Int.reduceBNe, Int.reduceBEq]
      simp [costR, hw, ha, hb]
    · cases h
  refine AW.seq (AW.reg cd37_2 fun K hK => ?_)
  simp only [g37_2, bR, Nat.reduceEqDiff, reduceIte, Int.reduceBNe, Int.reduceBEq]
  refine .done (hK _ ?_); clear hK K; simp only [thenQ, blockQ]
  refine AW.ite ?_
  simp only [condQ, bR, Nat.reduceEqDiff, reduceIte, Int.reduceBNe, Int.reduceBEq]
  refine ⟨fun h => ?_, fun h => ?_⟩
  · cases h
  refine AW.skip ?_; simp only [thenQ, blockQ, reduceIte, Nat.reduceEqDiff]
  refine AW.seq (AW.reg cd37_4 fun K hK => ?_)
  simp only [g37_4, bR, Nat.reduceEqDiff, reduceIte, Int.reduceBNe, Int.reduceBEq]
  simp only [typR, useR, okR, e_fin, bR, Nat.reduceEqDiff, reduceIte, Int.reduceBNe, Int.reduceBEq]
  refine .flat _ (F88 w a b ha) rfl ?_
  simp only [bR, Nat.reduceEqDiff, reduceIte, Int.reduceBNe, Int.reduceBEq]
  refine .done (hK _ ?_); clear hK K; simp only [thenQ, blockQ]
  refine AW.ret ?_
  simp only [blockQ, thenQ, bR, Nat.reduceEqDiff, reduceIte, Int.reduceBNe, Int.reduceBEq]
  simp [costR, hw, ha, hb]

theorem F51 (m : Marks) (a b : Arr 6 Int) : Ctr Try.prog 51 [enc m, enc a, enc b] (.tuple [enc (possR m a b).1, enc (possR m a b).2]) := by
  refine Ctr.mk' Try.func51 ca51 cc51 cr51 (Nat.le_of_ble_eq_true rfl) (fun hwf W0 D0 E1 => ?_)
  simp only [c51, r51, idx, Nat.zero_add, Nat.reduceAdd]
  refine AW.seq (AW.reg cd51_0 fun K hK => ?_)
  simp only [g51_0, bR, Nat.reduceEqDiff, reduceIte, Int.reduceBNe, Int.reduceBEq]
  simp only [e_isVal, bR, Nat.reduceEqDiff, reduceIte, Int.reduceBNe, Int.reduceBEq]
  refine .done (hK _ ?_); clear hK K; simp only [thenQ, blockQ]
  refine AW.seq ?_
  refine AW.seq (AW.reg cd51_1 fun K hK => ?_)
  simp only [g51_1, bR, Nat.reduceEqDiff, reduceIte, Int.reduceBNe, Int.reduceBEq]
  simp only [typR, useR, okR, e_fin, bR, Nat.reduceEqDiff, reduceIte, Int.reduceBNe, Int.reduceBEq]
  refine .flat _ (F47 m) rfl ?_
  simp only [typR, useR, okR, e_fin, bR, Nat.reduceEqDiff, reduceIte, Int.reduceBNe, Int.reduceBEq]
  refine .flat _ (F41 a) rfl ?_
  simp only [typR, useR, okR, e_fin, bR, Nat.reduceEqDiff, reduceIte, Int.reduceBNe, Int.reduceBEq]
  refine .flat _ (F45 b) rfl ?_
  simp only [typR, useR, okR, e_fin, bs3, bR, Nat.reduceEqDiff, reduceIte, Int.reduceBNe, Int.reduceBEq]
  refine .flat _ (F64 _) rfl ?_
  rw [first3 _ _ _ 13 10 12 (by decide) (by decide) (by decide)]
  simp only [bR, Nat.reduceEqDiff, reduceIte, Int.reduceBNe, Int.reduceBEq]
  refine .done (hK _ ?_); clear hK K; simp only [thenQ, blockQ]
  generalize hw : okM m = bw
  generalize ha : okMark a = ba
  generalize hb : okReading b = bb
  cases bw
  · refine AW.seq (AW.reg cd51_2 fun K hK => ?_)
    simp only [g51_2, bR, Nat.reduceEqDiff, reduceIte, Int.reduceBNe, Int.reduceBEq]
    refine .done (hK _ ?_); clear hK K; simp only [thenQ, blockQ]
    refine AW.ite ?_
    simp only [condQ, bR, Nat.reduceEqDiff, reduceIte, Int.reduceBNe, Int.reduceBEq]
    refine ⟨fun h => ?_, fun h => ?_⟩
    · refine AW.seq (AW.reg cd51_3 fun K hK => ?_)
      simp only [g51_3, bR, Nat.reduceEqDiff, reduceIte, Int.reduceBNe, Int.reduceBEq]
      refine .done (hK _ ?_); clear hK K; simp only [thenQ, blockQ]
      refine AW.ret ?_
      simp only [blockQ, thenQ, bR, Nat.reduceEqDiff, reduceIte, Int.reduceBNe, Int.reduceBEq]
      simp [possR, hw]
    · cases h
  cases ba
  · refine AW.seq (AW.reg cd51_2 fun K hK => ?_)
    simp only [g51_2, bR, Nat.reduceEqDiff, reduceIte, Int.reduceBNe, Int.reduceBEq]
    refine .done (hK _ ?_); clear hK K; simp only [thenQ, blockQ]
    refine AW.ite ?_
    simp only [condQ, bR, Nat.reduceEqDiff, reduceIte, Int.reduceBNe, Int.reduceBEq]
    refine ⟨fun h => ?_, fun h => ?_⟩
    · refine AW.seq (AW.reg cd51_3 fun K hK => ?_)
      simp only [g51_3, bR, Nat.reduceEqDiff, reduceIte, Int.reduceBNe, Int.reduceBEq]
      refine .done (hK _ ?_); clear hK K; simp only [thenQ, blockQ]
      refine AW.ret ?_
      simp only [blockQ, thenQ, bR, Nat.reduceEqDiff, reduceIte, Int.reduceBNe, Int.reduceBEq]
      simp [possR, hw, ha]
    · cases h
  cases bb
  · refine AW.seq (AW.reg cd51_2 fun K hK => ?_)
    simp only [g51_2, bR, Nat.reduceEqDiff, reduceIte, Int.reduceBNe, Int.reduceBEq]
    refine .done (hK _ ?_); clear hK K; simp only [thenQ, blockQ]
    refine AW.ite ?_
    simp only [condQ, bR, Nat.reduceEqDiff, reduceIte, Int.reduceBNe, Int.reduceBEq]
    refine ⟨fun h => ?_, fun h => ?_⟩
    · refine AW.seq (AW.reg cd51_3 fun K hK => ?_)
      simp only [g51_3, bR, Nat.reduceEqDiff, reduceIte, Int.reduceBNe, Int.reduceBEq]
      refine .done (hK _ ?_); clear hK K; simp only [thenQ, blockQ]
      refine AW.ret ?_
      simp only [blockQ, thenQ, bR, Nat.reduceEqDiff, reduceIte, Int.reduceBNe, Int.reduceBEq]
      simp [possR, hw, ha, hb]
    · cases h
  refine AW.seq (AW.reg cd51_2 fun K hK => ?_)
  simp only [g51_2, bR, Nat.reduceEqDiff, reduceIte, Int.reduceBNe, Int.reduceBEq]
  refine .done (hK _ ?_); clear hK K; simp only [thenQ, blockQ]
  refine AW.ite ?_
  simp only [condQ, bR, Nat.reduceEqDiff, reduceIte, Int.reduceBNe, Int.reduceBEq]
  refine ⟨fun h => ?_, fun h => ?_⟩
  · cases h
  refine AW.skip ?_; simp only [thenQ, blockQ, reduceIte, Nat.reduceEqDiff]
  refine AW.seq (AW.reg cd51_4 fun K hK => ?_)
  simp only [g51_4, bR, Nat.reduceEqDiff, reduceIte, Int.reduceBNe, Int.reduceBEq]
  simp only [typR, useR, okR, e_fin, bR, Nat.reduceEqDiff, reduceIte, Int.reduceBNe, Int.reduceBEq]
  refine .flat _ (F88 m.wear a b ha) rfl ?_
  simp only [typR, useR, okR, bR, Nat.reduceEqDiff, reduceIte, Int.reduceBNe, Int.reduceBEq]
  refine .done (hK _ ?_); clear hK K; simp only [thenQ, blockQ]
  refine AW.ret ?_
  simp only [blockQ, thenQ, bR, Nat.reduceEqDiff, reduceIte, Int.reduceBNe, Int.reduceBEq]
  simp [possR, hw, ha, hb]

theorem F90 (m : Marks) (o : Int) : Ctr Try.prog 90 [enc m, enc o] (enc (askedOf m o)) := by
  refine Ctr.mk' Try.func90 ca90 cc90 cr90 (Nat.le_of_ble_eq_true rfl) (fun hwf W0 D0 E1 => ?_)
  simp only [c90, r90, idx, Nat.zero_add, Nat.reduceAdd]
  refine AW.seq (AW.reg cd90_0 fun K hK => ?_)
  simp only [g90_0, bR, Nat.reduceEqDiff, reduceIte, Int.reduceBNe, Int.reduceBEq]
  simp only [e_isVal, bR, Nat.reduceEqDiff, reduceIte, Int.reduceBNe, Int.reduceBEq]
  refine .done (hK _ ?_); clear hK K; simp only [thenQ, blockQ]
  refine AW.seq ?_
  refine AW.seq (AW.reg cd90_1 fun K hK => ?_)
  simp only [g90_1, bR, Nat.reduceEqDiff, reduceIte, Int.reduceBNe, Int.reduceBEq]
  simp only [typR, useR, okR, e_fin, bR, Nat.reduceEqDiff, reduceIte, Int.reduceBNe, Int.reduceBEq]
  refine .flat _ (F47 m) rfl ?_
  simp only [bR, Nat.reduceEqDiff, reduceIte, Int.reduceBNe, Int.reduceBEq]
  refine .done (hK _ ?_); clear hK K; simp only [thenQ, blockQ]
  generalize hw : okM m = bw
  cases bw
  · refine AW.seq (AW.reg cd90_2 fun K hK => ?_)
    simp only [g90_2, bR, Nat.reduceEqDiff, reduceIte, Int.reduceBNe, Int.reduceBEq]
    refine .done (hK _ ?_); clear hK K; simp only [thenQ, blockQ]
    refine AW.ite ?_
    simp only [condQ, bR, Nat.reduceEqDiff, reduceIte, Int.reduceBNe, Int.reduceBEq]
    refine ⟨fun h => ?_, fun h => ?_⟩
    · refine AW.seq (AW.reg cd90_3 fun K hK => ?_)
      simp only [g90_3, bR, Nat.reduceEqDiff, reduceIte, Int.reduceBNe, Int.reduceBEq]
      refine .done (hK _ ?_); clear hK K; simp only [thenQ, blockQ]
      refine AW.ret ?_
      simp only [blockQ, thenQ, bR, Nat.reduceEqDiff, reduceIte, Int.reduceBNe, Int.reduceBEq]
      simp [askedOf, hw]
    · cases h
  refine AW.seq (AW.reg cd90_2 fun K hK => ?_)
  simp only [g90_2, bR, Nat.reduceEqDiff, reduceIte, Int.reduceBNe, Int.reduceBEq]
  refine .done (hK _ ?_); clear hK K; simp only [thenQ, blockQ]
  refine AW.ite ?_
  simp only [condQ, bR, Nat.reduceEqDiff, reduceIte, Int.reduceBNe, Int.reduceBEq]
  refine ⟨fun h => ?_, fun h => ?_⟩
  · cases h
  refine AW.skip ?_; simp only [thenQ, blockQ, reduceIte, Nat.reduceEqDiff]
  refine AW.seq (AW.seq ?_)
  refine AW.reg cd90_4 fun K hK => ?_
  simp only [g90_4, bR, Nat.reduceEqDiff, reduceIte, Int.reduceBNe, Int.reduceBEq]
  refine .flat _ (F97 o) rfl ?_
  generalize ho : inR 1 99 o = bo
  cases bo
  · simp only [bR, Nat.reduceEqDiff, reduceIte, Int.reduceBNe, Int.reduceBEq]
    refine .done (hK _ ?_); clear hK K; simp only [thenQ, blockQ]
    refine AW.ite ?_
    simp only [condQ, bR, Nat.reduceEqDiff, reduceIte, Int.reduceBNe, Int.reduceBEq]
    refine ⟨fun h => ?_, fun h => ?_⟩
    · refine AW.seq (AW.reg cd90_5 fun K hK => ?_)
      simp only [g90_5, bR, Nat.reduceEqDiff, reduceIte, Int.reduceBNe, Int.reduceBEq]
      refine .done (hK _ ?_); clear hK K; simp only [thenQ, blockQ]
      refine AW.ret ?_
      simp only [blockQ, thenQ, bR, Nat.reduceEqDiff, reduceIte, Int.reduceBNe, Int.reduceBEq]
      simp [askedOf, hw, ho]
    · cases h
  simp only [bR, Nat.reduceEqDiff, reduceIte, Int.reduceBNe, Int.reduceBEq]
  refine .done (hK _ ?_); clear hK K; simp only [thenQ, blockQ]
  refine AW.ite ?_
  simp only [condQ, bR, Nat.reduceEqDiff, reduceIte, Int.reduceBNe, Int.reduceBEq]
  refine ⟨fun h => ?_, fun h => ?_⟩
  · cases h
  refine AW.skip ?_; simp only [thenQ, blockQ, reduceIte, Nat.reduceEqDiff]
  refine AW.seq (AW.reg cd90_6 fun K hK => ?_)
  simp only [g90_6, bR, Nat.reduceEqDiff, reduceIte, Int.reduceBNe, Int.reduceBEq]
  refine .done (hK _ ?_); clear hK K; simp only [thenQ, blockQ]
  refine AW.ret ?_
  simp only [blockQ, thenQ, bR, Nat.reduceEqDiff, reduceIte, Int.reduceBNe, Int.reduceBEq]
  simp [askedOf, hw, ho]

end Go.Proofs.Ytkjkbpgdpnapfaa

/-
  FUNCTIONS OF THE PACKAGE mark BY CONTRACT: BinarySearchFunc, find, MarkOf, owners, arePlaces.
-/
namespace Go.Proofs.Ytkjkbpgdpnapfaa
open Go Go.Abs
open Go.Abs.Enc (enc)

theorem F115 (g : Given) (o : Int) : Ctr Try.prog 115 [enc g, enc o] (enc (IntKind.i64.wrap (g.owner - o))) := by
  refine Ctr.mk' Try.func115 ca115 cc115 cr115 (Nat.le_of_ble_eq_true rfl) (fun hwf W0 D0 E1 => ?_)
  simp only [c115, r115, idx, Nat.zero_add, Nat.reduceAdd]
  refine AW.seq (AW.reg cd115_0 fun K hK => ?_)
  simp only [g115_0, bR, Nat.reduceEqDiff, reduceIte, Int.reduceBNe, Int.reduceBEq]
  simp only [e_isVal, bR, Nat.reduceEqDiff, reduceIte, Int.reduceBNe, Int.reduceBEq]
  refine .done (hK _ ?_); clear hK K; simp only [thenQ, blockQ]
  refine AW.seq (AW.reg cd115_1 fun K hK => ?_)
  simp only [g115_1, bR, Nat.reduceEqDiff, reduceIte, Int.reduceBNe, Int.reduceBEq]
  simp only [typR, useR, okR, bR, Nat.reduceEqDiff, reduceIte, Int.reduceBNe, Int.reduceBEq]
  refine .done (hK _ ?_); clear hK K; simp only [thenQ, blockQ]
  refine AW.ret ?_
  simp only [blockQ, thenQ, bR, Nat.reduceEqDiff, reduceIte, Int.reduceBNe, Int.reduceBEq]

theorem half_ok (i j : Nat) (h : i + j ≤ 2000) : IntKind.i64.wrap ((IntKind.u64.wrap (IntKind.i64.wrap ((i : Int) + (j : Int)))).fdiv (2 ^ (min (1 : Int).toNat IntKind.u64.bits))) = (((i + j) / 2 : Nat) : Int) := by
  have e0 : IntKind.i64.wrap ((i : Int) + (j : Int)) = (i : Int) + (j : Int) := wrap_id _ (by omega) (by omega)
  rw [e0]
  have e1 : IntKind.u64.wrap ((i : Int) + (j : Int)) = ((i + j : Nat) : Int) := by
    simp only [IntKind.wrap, IntKind.bits, IntKind.signed]
    simp
    omega
  have e2 : (2 ^ (min (1 : Int).toNat IntKind.u64.bits) : Int) = 2 := by decide
  rw [e1, e2, Int.fdiv_eq_ediv_of_nonneg _ (by omega)]
  have e3 : ((i + j : Nat) : Int) / 2 = (((i + j) / 2 : Nat) : Int) := by omega
  rw [e3]
  exact wrap_id _ (by omega) (by omega)

theorem F114 (l : List Given) (o : Int) (f : FuncId) (c : Given → Int) (hf : ∀ x ∈ l, Ctr Try.prog f [enc x, enc o] (enc (c x))) (hlen : l.length ≤ 1000) (k : Nat) (hk : k ≤ l.length) (h1 : ∀ (i : Nat) (h : i < l.length), i < k → c l[i] < 0) (h2 : ∀ (i : Nat) (h : i < l.length), k ≤ i → ¬ c l[i] < 0) :
    Ctr Try.prog 114 [enc l, enc o, .func f []] (.tuple [enc (k : Int), enc (if h : k < l.length then c l[k] == 0 else false)]) := by
  refine Ctr.mk' Try.func114 ca114 cc114 cr114 (Nat.le_of_ble_eq_true rfl) (fun hwf W0 D0 E1 => ?_)
  simp only [c114, r114, idx, Nat.zero_add, Nat.reduceAdd]
  refine AW.seq (AW.reg cd114_0 fun K hK => ?_)
  simp only [g114_0, bR, Nat.reduceEqDiff, reduceIte, Int.reduceBNe, Int.reduceBEq]
  refine .done (hK _ ?_); clear hK K; simp only [thenQ, blockQ]
  refine AW.seq (AW.reg cd114_1 fun K hK => ?_)
  simp only [g114_1, bR, Nat.reduceEqDiff, reduceIte, Int.reduceBNe, Int.reduceBEq]
  simp only [useR, bR, Nat.reduceEqDiff, reduceIte, Int.reduceBNe, Int.reduceBEq]
  refine .done (hK _ ?_); clear hK K; simp only [thenQ, blockQ]
  refine AW.seq (AW.reg cd114_2 fun K hK => ?_)
  simp only [g114_2, bR, Nat.reduceEqDiff, reduceIte, Int.reduceBNe, Int.reduceBEq]
  refine .done (hK _ ?_); clear hK K; simp only [thenQ, blockQ]
  refine AW.seq ?_
  refine AW.block (AW.loop (fun s : Nat × Nat => mkA [(0, enc l), (1, .int .i64 o), (2, .func f []), (8, .int .i64 l.length), (9, .int .i64 s.1), (10, .int .i64 s.2)] []) (fun s => s.1 ≤ k ∧ k ≤ s.2 ∧ s.2 ≤ l.length) (fun s => s.2 - s.1) (0, l.length) ⟨Nat.zero_le _, hk, Nat.le_refl _⟩ ?_ ?_)
  · refine Sub.of_lists ?_ ?_ ?_ ?_ <;> simp [subT, subO, onlyT, onlyO, isIn, look_cons, lookO_cons, lookO_nil, AV.only, AV.onlys, AO.only, onlys_map, onlys_append, e_only, e_int, e_bool]
  · rintro ⟨i, j⟩ ⟨hi, hj, hjl⟩
    simp only at hi hj hjl ⊢
    refine AW.seq (AW.seq ?_)
    refine AW.reg cd114_3 fun K hK => ?_
    simp only [g114_3, bR, Nat.reduceEqDiff, reduceIte, Int.reduceBNe, Int.reduceBEq]
    refine .done (hK _ ?_); clear hK K; simp only [thenQ, blockQ]
    refine AW.ite ?_
    simp only [condQ, bR, Nat.reduceEqDiff, reduceIte, Int.reduceBNe, Int.reduceBEq]
    refine ⟨fun h => ?_, fun h => ?_⟩
    · have hlt : i < j := by simpa using h
      refine AW.skip ?_; simp only [thenQ, blockQ, reduceIte, Nat.reduceEqDiff]
      refine AW.block ?_
      have hhl : (i + j) / 2 < l.length := by omega
      refine AW.seq (AW.reg cd114_4 fun K hK => ?_)
      simp only [g114_4, bR, Nat.reduceEqDiff, reduceIte, Int.reduceBNe, Int.reduceBEq]
      simp only [half_ok i j (by omega), Int.reduceLE, bR, Nat.reduceEqDiff, reduceIte, Int.reduceBNe, Int.reduceBEq]
      refine .done (hK _ ?_); clear hK K; simp only [thenQ, blockQ]
      refine AW.seq (AW.reg cd114_5 fun K hK => ?_)
      simp only [g114_5, bR, Nat.reduceEqDiff, reduceIte, Int.reduceBNe, Int.reduceBEq]
      simp only [isE_nat 7 hhl rfl, typR, okR, List.append_nil, e_fin, bR, Nat.reduceEqDiff, reduceIte, Int.reduceBNe, Int.reduceBEq]
      refine .flat _ (hf _ (List.getElem_mem hhl)) rfl ?_
      simp only [bR, Nat.reduceEqDiff, reduceIte, Int.reduceBNe, Int.reduceBEq]
      refine .done (hK _ ?_); clear hK K; simp only [thenQ, blockQ]
      refine AW.ite ?_
      simp only [condQ, bR, Nat.reduceEqDiff, reduceIte, Int.reduceBNe, Int.reduceBEq]
      refine ⟨fun h => ?_, fun h => ?_⟩
      · have hc : c l[(i + j) / 2] < 0 := by simpa using h
        have hlk : (i + j) / 2 < k := Nat.lt_of_not_le fun hle => h2 _ hhl hle hc
        refine AW.reg cd114_6 fun K hK => ?_
        simp only [g114_6, bR, Nat.reduceEqDiff, reduceIte, Int.reduceBNe, Int.reduceBEq]
        refine .done (hK _ ?_); clear hK K; simp only [thenQ, blockQ]
        refine ⟨((i + j) / 2 + 1, j), ⟨by simp only; omega, by simp only; omega, by simp only; omega⟩, by simp only; omega, ?_⟩
        rw [wrap_id _ (by omega) (by omega)]
        refine Sub.of_lists ?_ ?_ ?_ ?_ <;> simp [subT, subO, onlyT, onlyO, isIn, look_cons, lookO_cons, lookO_nil, AV.only, AV.onlys, AO.only, onlys_map, onlys_append, e_only, e_int, e_bool]
      · have hc : ¬ c l[(i + j) / 2] < 0 := by simpa using h
        have hkl : k ≤ (i + j) / 2 := Nat.le_of_not_lt fun hle => hc (h1 _ hhl hle)
        refine AW.reg cd114_7 fun K hK => ?_
        simp only [g114_7, bR, Nat.reduceEqDiff, reduceIte, Int.reduceBNe, Int.reduceBEq]
        refine .done (hK _ ?_); clear hK K; simp only [thenQ, blockQ]
        refine ⟨(i, (i + j) / 2), ⟨by simp only; omega, by simp only; omega, by simp only; omega⟩, by simp only; omega, ?_⟩
        refine Sub.of_lists ?_ ?_ ?_ ?_ <;> simp [subT, subO, onlyT, onlyO, isIn, look_cons, lookO_cons, lookO_nil, AV.only, AV.onlys, AO.only, onlys_map, onlys_append, e_only, e_int, e_bool]
    · have hge : ¬ i < j := by simpa using h
      have hik : i = k := by omega
      subst hik
      refine AW.exit ?_; simp only [thenQ, blockQ, reduceIte, Nat.reduceEqDiff]
      refine AW.seq (AW.reg cd114_8 fun K hK => ?_)
      simp only [g114_8, bR, Nat.reduceEqDiff, reduceIte, Int.reduceBNe, Int.reduceBEq]
      generalize hz : decide ((i : Int) < (l.length : Int)) = z
      cases z
      · have hz' : ¬ i < l.length := by simpa using hz
        simp only [bR, Nat.reduceEqDiff, reduceIte, Int.reduceBNe, Int.reduceBEq]
        refine .done (hK _ ?_); clear hK K; simp only [thenQ, blockQ]
        refine AW.ret ?_
        simp only [blockQ, thenQ, bR, Nat.reduceEqDiff, reduceIte, Int.reduceBNe, Int.reduceBEq]
        simp [hz']
      · have hz' : i < l.length := by simpa using hz
        simp only [isE_nat 7 hz' rfl, typR, okR, List.append_nil, e_fin, bR, Nat.reduceEqDiff, reduceIte, Int.reduceBNe, Int.reduceBEq]
        refine .flat _ (hf _ (List.getElem_mem hz')) rfl ?_
        simp only [bR, Nat.reduceEqDiff, reduceIte, Int.reduceBNe, Int.reduceBEq]
        refine .done (hK _ ?_); clear hK K; simp only [thenQ, blockQ]
        refine AW.ret ?_
        simp only [blockQ, thenQ, bR, Nat.reduceEqDiff, reduceIte, Int.reduceBNe, Int.reduceBEq]
        simp [hz']

/-- How many owners come ahead of one. -/
def posOf (l : List Given) (o : Int) : Nat := l.findIdx fun g => decide (o ≤ g.owner)
def foundAt (l : List Given) (o : Int) : Bool := if h : posOf l o < l.length then l[posOf l o].owner == o else false

def rising (l : List Given) : Prop := ∀ (i j : Nat) (hi : i < l.length) (hj : j < l.length), i < j → l[i].owner < l[j].owner

theorem posOf_lt {l : List Given} {o : Int} {i : Nat} (h : i < l.length) (hi : i < posOf l o) : l[i].owner < o := by
  have := List.not_of_lt_findIdx hi
  simpa using this
theorem posOf_ge {l : List Given} {o : Int} (hr : rising l) {i : Nat} (h : i < l.length) (hi : posOf l o ≤ i) : o ≤ l[i].owner := by
  have hp : posOf l o < l.length := by omega
  have h1 : o ≤ l[posOf l o].owner := by
    have : decide (o ≤ (l[posOf l o]'hp).owner) = true := @List.findIdx_getElem _ (fun g : Given => decide (o ≤ g.owner)) l hp
    simpa using this
  by_cases he : posOf l o = i
  · simp only [← he]; exact h1
  · have := hr _ i hp h (by omega)
    omega

theorem okM_rising {m : Marks} (h : okM m = true) : rising m.given := by
  simp only [okM, Bool.and_eq_true, List.all_eq_true, List.mem_range] at h
  have h1 : ∀ i, i + 1 < m.given.length → (gv m i).owner < (gv m (i + 1)).owner := fun i hi => by
    have := h.2.2.2 (i + 1) hi
    simp only [okAt, Bool.and_eq_true] at this
    simpa using this.2.2.1
  intro i j hi hj hij
  obtain ⟨d, rfl⟩ : ∃ d, j = i + 1 + d := ⟨j - (i + 1), by omega⟩
  induction d with
  | zero => rw [gv_eq hi, gv_eq hj]; exact h1 i hj
  | succ d ih =>
    have hj' : i + 1 + d < m.given.length := by omega
    have := ih hj' (by omega)
    rw [gv_eq hi, gv_eq hj'] at this
    rw [gv_eq hi, gv_eq hj]
    have h3 := h1 (i + 1 + d) hj
    have e : i + 1 + (d + 1) = i + 1 + d + 1 := by omega
    rw [e]; omega
theorem okM_owner {m : Marks} (h : okM m = true) {i : Nat} (hi : i < m.given.length) : 1 ≤ (gv m i).owner ∧ (gv m i).owner ≤ 99 := by
  simp only [okM, Bool.and_eq_true, List.all_eq_true, List.mem_range] at h
  have := h.2.2.2 i hi
  simp only [okAt, Bool.and_eq_true, inR, decide_eq_true_eq] at this
  exact this.1
theorem okM_len {m : Marks} (h : okM m = true) : m.given.length ≤ 40 := by
  simp only [okM, Bool.and_eq_true, decide_eq_true_eq] at h
  exact h.2.2.1
theorem okM_mark {m : Marks} (h : okM m = true) : ∀ g ∈ m.given, okMark g.mark = true := fun g hg => by
  simp only [okM, Bool.and_eq_true, List.all_eq_true, List.mem_range] at h
  obtain ⟨i, hi, rfl⟩ := List.getElem_of_mem hg
  rw [gv_eq hi]
  exact okAt_mark (h.2.2.2 i hi)

theorem F91 (m : Marks) (o : Int) (hm : okM m = true) (ho : 1 ≤ o ∧ o ≤ 99) : Ctr Try.prog 91 [enc m, enc o] (.tuple [enc (posOf m.given o : Int), enc (foundAt m.given o)]) := by
  have hlen := okM_len hm
  have hr := okM_rising hm
  have hw : ∀ (i : Nat) (h : i < m.given.length), IntKind.i64.wrap (m.given[i].owner - o) = m.given[i].owner - o := fun i h => by
    rw [gv_eq h]
    have := okM_owner hm h
    exact wrap_id _ (by omega) (by omega)
  refine Ctr.mk' Try.func91 ca91 cc91 cr91 (Nat.le_of_ble_eq_true rfl) (fun hwf W0 D0 E1 => ?_)
  simp only [c91, r91, idx, Nat.zero_add, Nat.reduceAdd]
  refine AW.seq (AW.reg cd91_0 fun K hK => ?_)
  simp only [g91_0, bR, Nat.reduceEqDiff, reduceIte, Int.reduceBNe, Int.reduceBEq]
  simp only [e_isVal, bR, Nat.reduceEqDiff, reduceIte, Int.reduceBNe, Int.reduceBEq]
  refine .done (hK _ ?_); clear hK K; simp only [thenQ, blockQ]
  refine AW.seq (AW.reg cd91_1 fun K hK => ?_)
  simp only [g91_1, bR, Nat.reduceEqDiff, reduceIte, Int.reduceBNe, Int.reduceBEq]
  simp only [typR, useR, okR, e_fin, bR, Nat.reduceEqDiff, reduceIte, Int.reduceBNe, Int.reduceBEq]
  refine .flat _ (F114 m.given o 115 (fun g => IntKind.i64.wrap (g.owner - o)) (fun x _ => F115 x o) (by omega) (posOf m.given o) List.findIdx_le_length (fun i h hi => ?_) (fun i h hi => ?_)) rfl ?_
  · simp only [hw i h]; have := posOf_lt h hi; omega
  · simp only [hw i h]; have := posOf_ge hr h hi; omega
  simp only [List.getElem?_cons_zero, List.getElem?_cons_succ, bR, Nat.reduceEqDiff, reduceIte, Int.reduceBNe, Int.reduceBEq]
  refine .done (hK _ ?_); clear hK K; simp only [thenQ, blockQ]
  refine AW.ret ?_
  simp only [blockQ, thenQ, bR, Nat.reduceEqDiff, reduceIte, Int.reduceBNe, Int.reduceBEq]
  have e : (if h : posOf m.given o < m.given.length then IntKind.i64.wrap (m.given[posOf m.given o].owner - o) == 0 else false) = foundAt m.given o := by
    simp only [foundAt]
    split
    · rename_i h
      rw [hw _ h, Bool.eq_iff_iff]
      simp
      omega
    · rfl
  simp [e]

theorem foundAt_index {m : Marks} {o : Int} (hm : okM m = true) : (foundAt m.given o = true → indexOf m.given o = posOf m.given o ∧ posOf m.given o < m.given.length) ∧ (foundAt m.given o = false → indexOf m.given o = -1) := by
  have hr := okM_rising hm
  constructor
  · intro h
    simp only [foundAt] at h
    split at h
    · rename_i hlt
      refine ⟨?_, hlt⟩
      have : m.given.findIdx? (fun g => g.owner == o) = some (posOf m.given o) := by
        rw [List.findIdx?_eq_some_iff_getElem]
        refine ⟨hlt, h, fun j hj => ?_⟩
        have := posOf_lt (l := m.given) (o := o) (i := j) (by omega) hj
        simp; omega
      simp [indexOf, this]
    · cases h
  · intro h
    have : m.given.findIdx? (fun g => g.owner == o) = none := by
      rw [List.findIdx?_eq_none_iff]
      intro g hg
      obtain ⟨j, hj, rfl⟩ := List.getElem_of_mem hg
      simp only [foundAt] at h
      by_cases hjp : j < posOf m.given o
      · have := posOf_lt hj hjp
        simp; omega
      · have hp : posOf m.given o < m.given.length := by omega
        rw [dif_pos hp] at h
        have h1 := posOf_ge (o := o) hr hp (Nat.le_refl _)
        by_cases he : posOf m.given o = j
        · simp only [← he]; exact h
        · have := hr _ j hp hj (by omega)
          simp; omega
    simp [indexOf, this]

theorem F39 (m : Marks) (o : Int) : Ctr Try.prog 39 [enc m, enc o] (.tuple [enc (markOf m o).1, enc (markOf m o).2]) := by
  refine Ctr.mk' Try.func39 ca39 cc39 cr39 (Nat.le_of_ble_eq_true rfl) (fun hwf W0 D0 E1 => ?_)
  simp only [c39, r39, idx, Nat.zero_add, Nat.reduceAdd]
  refine AW.seq (AW.reg cd39_0 fun K hK => ?_)
  simp only [g39_0, bR, Nat.reduceEqDiff, reduceIte, Int.reduceBNe, Int.reduceBEq]
  simp only [e_isVal, bR, Nat.reduceEqDiff, reduceIte, Int.reduceBNe, Int.reduceBEq]
  refine .done (hK _ ?_); clear hK K; simp only [thenQ, blockQ]
  refine AW.seq ?_
  refine AW.seq (AW.reg cd39_1 fun K hK => ?_)
  simp only [g39_1, bR, Nat.reduceEqDiff, reduceIte, Int.reduceBNe, Int.reduceBEq]
  simp only [typR, useR, okR, e_fin, bR, Nat.reduceEqDiff, reduceIte, Int.reduceBNe, Int.reduceBEq]
  refine .flat _ (F90 m o) rfl ?_
  generalize ha : askedOf m o = a
  simp only [bR, Nat.reduceEqDiff, reduceIte, Int.reduceBNe, Int.reduceBEq]
  refine .done (hK _ ?_); clear hK K; simp only [thenQ, blockQ]
  refine AW.seq (AW.reg cd39_2 fun K hK => ?_)
  simp only [g39_2, bR, Nat.reduceEqDiff, reduceIte, Int.reduceBNe, Int.reduceBEq]
  refine .done (hK _ ?_); clear hK K; simp only [thenQ, blockQ]
  refine AW.ite ?_
  simp only [condQ, bR, Nat.reduceEqDiff, reduceIte, Int.reduceBNe, Int.reduceBEq]
  refine ⟨fun h => ?_, fun h => ?_⟩
  · have h' : a ≠ 0 := by simpa using h
    refine AW.seq (AW.reg cd39_3 fun K hK => ?_)
    simp only [g39_3, bR, Nat.reduceEqDiff, reduceIte, Int.reduceBNe, Int.reduceBEq]
    simp only [setParts, List.map_nil, Option.map_some, bR, Nat.reduceEqDiff, reduceIte, Int.reduceBNe, Int.reduceBEq]
    simp only [e_zero6]
    rw [stR3_ok (e_isVal _) (by rw [e_okS]; rfl) rfl]
    simp only [bR, Nat.reduceEqDiff, reduceIte, Int.reduceBNe, Int.reduceBEq]
    refine .done (hK _ ?_); clear hK K; simp only [thenQ, blockQ]
    refine AW.ret ?_
    simp only [blockQ, thenQ, bR, Nat.reduceEqDiff, reduceIte, Int.reduceBNe, Int.reduceBEq]
    simp only [typR, e_fin, bR, Nat.reduceEqDiff, reduceIte, Int.reduceBNe, Int.reduceBEq]
    simp [markOf, ha, h']
  have h' : a = 0 := by simpa using h
  subst h'
  have hm : okM m = true := by
    simp only [askedOf] at ha
    split at ha
    · assumption
    · cases ha
  have ho : 1 ≤ o ∧ o ≤ 99 := by
    simp only [askedOf, hm, if_true] at ha
    split at ha
    · rename_i h1; simpa [inR] using h1
    · cases ha
  obtain ⟨f1, f2⟩ := foundAt_index (o := o) hm
  refine AW.skip ?_; simp only [thenQ, blockQ, reduceIte, Nat.reduceEqDiff]
  refine AW.seq (AW.reg cd39_4 fun K hK => ?_)
  simp only [g39_4, bR, Nat.reduceEqDiff, reduceIte, Int.reduceBNe, Int.reduceBEq]
  simp only [typR, useR, okR, e_fin, bR, Nat.reduceEqDiff, reduceIte, Int.reduceBNe, Int.reduceBEq]
  refine .flat _ (F91 m o hm ho) rfl ?_
  simp only [List.getElem?_cons_zero, List.getElem?_cons_succ, bR, Nat.reduceEqDiff, reduceIte, Int.reduceBNe, Int.reduceBEq]
  refine .done (hK _ ?_); clear hK K; simp only [thenQ, blockQ]
  refine AW.seq (AW.seq ?_)
  refine AW.reg cd39_5 fun K hK => ?_
  simp only [g39_5, bR, Nat.reduceEqDiff, reduceIte, Int.reduceBNe, Int.reduceBEq]
  refine .done (hK _ ?_); clear hK K; simp only [thenQ, blockQ]
  refine AW.ite ?_
  simp only [condQ, bR, Nat.reduceEqDiff, reduceIte, Int.reduceBNe, Int.reduceBEq]
  refine ⟨fun h => ?_, fun h => ?_⟩
  · have hf : foundAt m.given o = false := by simpa using h
    refine AW.seq (AW.reg cd39_6 fun K hK => ?_)
    simp only [g39_6, bR, Nat.reduceEqDiff, reduceIte, Int.reduceBNe, Int.reduceBEq]
    simp only [setParts, List.map_nil, Option.map_some, bR, Nat.reduceEqDiff, reduceIte, Int.reduceBNe, Int.reduceBEq]
    simp only [e_zero6]
    rw [stR3_ok (e_isVal _) (by rw [e_okS]; rfl) rfl]
    simp only [bR, Nat.reduceEqDiff, reduceIte, Int.reduceBNe, Int.reduceBEq]
    refine .done (hK _ ?_); clear hK K; simp only [thenQ, blockQ]
    refine AW.ret ?_
    simp only [blockQ, thenQ, bR, Nat.reduceEqDiff, reduceIte, Int.reduceBNe, Int.reduceBEq]
    simp only [typR, e_fin, bR, Nat.reduceEqDiff, reduceIte, Int.reduceBNe, Int.reduceBEq]
    simp [markOf, ha, f2 hf]
  · have hf : foundAt m.given o = true := by simpa using h
    obtain ⟨g1, g2⟩ := f1 hf
    refine AW.skip ?_; simp only [thenQ, blockQ, reduceIte, Nat.reduceEqDiff]
    refine AW.seq (AW.reg cd39_7 fun K hK => ?_)
    simp only [g39_7, bR, Nat.reduceEqDiff, reduceIte, Int.reduceBNe, Int.reduceBEq]
    simp only [typR, useR, okR, isE_gv g2, bR, Nat.reduceEqDiff, reduceIte, Int.reduceBNe, Int.reduceBEq]
    rw [stR3_ok (e_isVal _) (by rw [e_okS]; rfl) ((e_sh _).trans rfl)]
    simp only [bR, Nat.reduceEqDiff, reduceIte, Int.reduceBNe, Int.reduceBEq]
    refine .done (hK _ ?_); clear hK K; simp only [thenQ, blockQ]
    refine AW.ret ?_
    simp only [blockQ, thenQ, bR, Nat.reduceEqDiff, reduceIte, Int.reduceBNe, Int.reduceBEq]
    simp only [typR, e_fin, bR, Nat.reduceEqDiff, reduceIte, Int.reduceBNe, Int.reduceBEq]
    have : ¬ ((posOf m.given o : Int) < 0) := by omega
    simp [markOf, ha, g1, this]

end Go.Proofs.Ytkjkbpgdpnapfaa

/-
  THE ABSTRACT LAYER, 20: objects handed over: rules in the form in which they are used. Over any program.
-/
namespace Go.Abs
open Go Go.RowKit
open Enc (enc)

theorem CtrY.mk' {P : Program} {f : FuncId} {fn : Func} {x : AC} {rs : List RV} {Y : Value → List AV → List (Nat × AO) → Post → Prop} {args : List AV} {os : List (Nat × AO)} {post : Post} (hf : P.funcs[f]? = some fn) (hcall : callable P f = true) (hc : (fn.body.bind (cCode P fn.ntmps)) = some x)
    (hrs : cRes P fn.results.toList = some rs) (hn : args.length ≤ fn.ntmps) (hn2 : fn.ntmps ≤ 1000000) (hos : ∀ m, isIn os m = true → 1000000 ≤ m) (h : AV.wfs args → ∀ (w : World) (D : Dom) (E : Env), AW ⟨P, w, D, fn.ntmps, ownE E, E, Y, none⟩ x (retO rs post) (mkA (idx 0 args) os)) : CtrY P f Y args os post := by
  obtain ⟨body, hb, hc'⟩ := Option.bind_eq_some_iff.1 hc
  refine ⟨hcall, fun w D E vs hy hD ho hv => ?_⟩
  exact (CtrY.of_AW hf hb hcall hc' hrs hn (fun m hm => ⟨Nat.le_trans hn2 (hos m hm), hos m hm⟩) (fun w D E => (h (rvs_wf _ _ hv) w D E).sub (start_mkO args os))).2 w D E vs hy hD ho hv

theorem CtrO.mk' {P : Program} {f : FuncId} {fn : Func} {x : AC} {rs : List RV} {args : List AV} {os : List (Nat × AO)} {post : Post} (hf : P.funcs[f]? = some fn) (hcall : callable P f = true) (hc : (fn.body.bind (cCode P fn.ntmps)) = some x)
    (hrs : cRes P fn.results.toList = some rs) (hn : args.length ≤ fn.ntmps) (hn2 : fn.ntmps ≤ 1000000) (hos : ∀ m, isIn os m = true → 1000000 ≤ m) (h : AV.wfs args → ∀ (w : World) (D : Dom) (E : Env), AW ⟨P, w, D, fn.ntmps, ownE E, E, noY, none⟩ x (retO rs post) (mkA (idx 0 args) os)) : CtrO P f args os post :=
  CtrO.of_Y (CtrY.mk' hf hcall hc hrs hn hn2 hos h)

/-- One object is handed back, or none. -/
theorem held0 {A : AState} : ∀ n x, lookO [] n = some x → A.o n = some x ∧ x.only (isIn []) = true ∧ x.fix = true := fun n x h => by simp [lookO] at h
theorem held1 {A : AState} {k : Nat} {c : AV} (h1 : A.o k = some (.box c)) (h2 : ∀ p, c.only p = true) : ∀ n x, lookO [(k, .box c)] n = some x → A.o n = some x ∧ x.only (isIn [(k, .box c)]) = true ∧ x.fix = true := fun n x h => by
  simp only [lookO] at h
  split at h
  · rename_i hn
    subst hn
    simp only [Option.some.injEq] at h
    subst h
    exact ⟨h1, h2 _, rfl⟩
  · cases h

theorem Bck.nil {bx : Bool} {ρ : List (Nat × Nat)} {os0 : List (Nat × AO)} {r : AV} (h1 : ∀ p, r.only p = true) (h2 : bx = true → r.lean = true) : Bck bx ρ [] os0 r [] :=
  ⟨fun m x h => by simp [lookO] at h, fun m m' h => by simp [isIn, lookO] at h, fun m h => by simp [isIn, lookO] at h, fun m h => by simp [isIn, lookO] at h, h1 _, h2⟩
theorem isIn_one {k : Nat} {x : AO} {m : Nat} : isIn [(k, x)] m = true ↔ m = k := by
  simp only [isIn, lookO]; split <;> simp_all
/-- A new object comes back. -/
theorem Bck.new1 {bx : Bool} {k d : Nat} {os0 : List (Nat × AO)} {r c : AV} (h1 : ∀ p, c.only p = true) (h2 : bx = true → c.lean = true) (h3 : r.only (isIn [(k, .box c)]) = true) (h4 : bx = true → r.lean = true) (h5 : lookO os0 d = none) (h6 : d < 1000000) : Bck bx [(k, d)] [] os0 r [(k, .box c)] := by
  refine ⟨fun m x h => ?_, fun m m' h h' _ => ?_, fun m h => by simp [isIn, lookO] at h, fun m h _ => ?_, h3, h4⟩
  · simp only [lookO] at h
    split at h
    · simp only [Option.some.injEq] at h; subst h; exact ⟨h1 _, rfl, h2⟩
    · cases h
  · rw [isIn_one.1 h, isIn_one.1 h']
  · rw [isIn_one.1 h]; simp [rnm, h5, h6]
/-- The object that was handed over comes back. -/
theorem Bck.one {bx : Bool} {k d : Nat} {x : AO} {os0 : List (Nat × AO)} {r c : AV} (h1 : ∀ p, c.only p = true) (h2 : bx = true → c.lean = true) (h3 : r.only (isIn [(k, .box c)]) = true) (h4 : bx = true → r.lean = true) : Bck bx [(k, d)] [(k, x)] os0 r [(k, .box c)] := by
  refine ⟨fun m x h => ?_, fun m m' h h' _ => ?_, fun m h => ?_, fun m h h' => ?_, h3, h4⟩
  · simp only [lookO] at h
    split at h
    · simp only [Option.some.injEq] at h; subst h; exact ⟨h1 _, rfl, h2⟩
    · cases h
  · rw [isIn_one.1 h, isIn_one.1 h']
  · rw [isIn_one.1 h]; exact isIn_one.2 rfl
  · rw [isIn_one.1 h] at h'
    have : isIn [(k, x)] k = true := isIn_one.2 rfl
    rw [this] at h'; cases h'
theorem Gvn.nil {ρ : List (Nat × Nat)} {os0 : List (Nat × AO)} : Gvn ρ [] os0 := ⟨fun m x h => by simp [lookO] at h, fun m m' h => by simp [isIn, lookO] at h⟩
mutual
theorem ren_closed (ρ : Nat → Nat) : ∀ x : AV, x.closed = true → x.ren ρ = x
  | .agg fs, h => by simp only [AV.ren, AV.closed] at *; rw [rens_closed ρ fs h]
  | .slice _ es, h => by simp only [AV.ren, AV.closed] at *; rw [rens_closed ρ es h]
  | .ref x, h => by simp only [AV.ren, AV.closed] at *; rw [ren_closed ρ x h]
  | .func _ caps, h => by simp only [AV.ren, AV.closed] at *; rw [rens_closed ρ caps h]
  | .iface _ v, h => by simp only [AV.ren, AV.closed] at *; rw [ren_closed ρ v h]
  | .bool _, _ | .int _ _, _ | .str _, _ | .nilp, _ | .nilf, _ | .nili, _ | .raw _, _ | .nils _, _ | .c0 _, _ => by simp only [AV.ren]
  | .ptr _ _, h | .own _ _, h | .view _ _ _ _ _, h | .undef, h | .top, h | .tuple _, h => by simp [AV.closed] at h
theorem rens_closed (ρ : Nat → Nat) : ∀ xs : List AV, AV.closeds xs = true → AV.rens ρ xs = xs
  | [], _ => rfl
  | x :: xs, h => by
    simp only [AV.closeds, Bool.and_eq_true] at h
    simp only [AV.rens, ren_closed ρ x h.1, rens_closed ρ xs h.2]
end

theorem renR :
    (∀ (k : IntKind) n (ρ : Nat → Nat), (AV.int k n).ren ρ = .int k n) ∧ (∀ (b : Bool) (ρ : Nat → Nat), (AV.bool b).ren ρ = .bool b) ∧ (∀ n p (ρ : Nat → Nat), (AV.ptr n p).ren ρ = .ptr (ρ n) p) ∧
    (∀ n p sz lo k (ρ : Nat → Nat), (AV.view n p sz lo k).ren ρ = .view (ρ n) p sz lo k) ∧ (∀ fs (ρ : Nat → Nat), (AV.agg fs).ren ρ = .agg (AV.rens ρ fs)) ∧ (∀ fs (ρ : Nat → Nat), (AV.tuple fs).ren ρ = .tuple (AV.rens ρ fs)) ∧ (∀ f fs (ρ : Nat → Nat), (AV.func f fs).ren ρ = .func f (AV.rens ρ fs)) ∧
    (∀ ρ : Nat → Nat, AV.rens ρ [] = []) ∧ (∀ (ρ : Nat → Nat) x xs, AV.rens ρ (x :: xs) = x.ren ρ :: AV.rens ρ xs) ∧ (∀ (ρ : Nat → Nat) (x : AV), (AO.box x).ren ρ = .box (x.ren ρ)) ∧
    (∀ (z : Nat) (ρ : Nat → Nat), (AV.nils z).ren ρ = .nils z) ∧ (∀ (z : Nat) (ρ : Nat → Nat), (AV.c0 z).ren ρ = .c0 z) ∧
    (∀ n, rnm [] n = n) ∧ (∀ a b r n, rnm ((a, b) :: r) n = if n = a then b else rnm r n) ∧ (∀ ρ, renO ρ [] = []) ∧ (∀ ρ k x os, renO ρ ((k, x) :: os) = (rnm ρ k, x.ren (rnm ρ)) :: renO ρ os) :=
  ⟨fun _ _ _ => by simp only [AV.ren], fun _ _ => by simp only [AV.ren], fun _ _ _ => by simp only [AV.ren], fun _ _ _ _ _ _ => by simp only [AV.ren], fun _ _ => by simp only [AV.ren], fun _ _ => by simp only [AV.ren], fun _ _ _ => by simp only [AV.ren],
    fun _ => rfl, fun _ _ _ => by simp only [AV.rens], fun _ _ => rfl, fun _ _ => by simp only [AV.ren], fun _ _ => by simp only [AV.ren], fun _ => rfl, fun _ _ _ _ => rfl, fun _ => rfl, fun _ _ _ _ => rfl⟩

section
variable {α : Type} [Enc α]
theorem e_ren (ρ : Nat → Nat) (x : α) : (enc x).ren ρ = enc x := ren_closed ρ _ (e_closed x)
theorem rens_map_enc (ρ : Nat → Nat) (l : List α) : AV.rens ρ (l.map enc) = l.map enc := rens_closed ρ _ (closeds_map l)

/-- Data that reads no memory. -/
class Lean0 (α : Type) [Enc α] : Prop where
  lean : ∀ x : α, (enc x).lean = true
theorem e_lean [Lean0 α] (x : α) : (enc x).lean = true := Lean0.lean x
theorem leans_map [Lean0 α] (l : List α) : AV.leans (l.map enc) = true := by
  induction l with
  | nil => rfl
  | cons x l ih => simp only [List.map_cons, AV.leans, e_lean, ih, Bool.and_self]
instance : Lean0 Int := ⟨fun _ => rfl⟩
instance : Lean0 Bool := ⟨fun _ => rfl⟩
instance {n : Nat} [Lean0 α] : Lean0 (Arr n α) := ⟨fun x => by simp only [enc, AV.lean]; exact leans_map x.l⟩

theorem srcL_enc (A : AState) (esz : Nat) (l : List α) (hs : Enc.sz α = esz) : srcL A esz (enc l) = some (l.map enc) := by
  simp only [e_list, srcL, hs, if_true]
theorem und_enc (l : List α) : und (enc l) = l.isEmpty := by
  simp only [e_list, und]; cases l <;> rfl
theorem nilE_enc (neg : Bool) (l : List α) (h : l ≠ []) : nilE neg (enc l) = some (.bool neg) := by
  simp only [e_list, nilE]
  cases l with
  | nil => exact absurd rfl h
  | cons => rfl

section
variable {P : Program} {Y : Value → List AV → List (Nat × AO) → Post → Prop} {K : AState → Prop} {A : AState} {rest : List G} {d : Nat} {e esz bytes : Nat} {q : Nat}

theorem WP.appNew (z : α) {l : List α} (hs : Enc.sz α = esz) (hl : l ≠ []) (hf : A.o d = none) (hb : l.length * bytes ≤ 140737488355328) (hml : l.length ≤ maxLen)
    (h : ∀ m, WP P Y false K (aops rest ((A.setO d (.box (.agg ((l ++ List.replicate m z).map enc)))).putO (some d) (.view d [] esz 0 l.length)))) : WP P Y false K (appR A (some d) e esz bytes (enc z) (enc l) rest (.c0 q)) := by
  have hne : l.map (enc (α := α)) ≠ [] := by simpa using hl
  have h1 : srcL A esz (.c0 q) = some [] := rfl
  simp only [appR, h1, srcL_enc A esz l hs, appO, if_neg hne, appG, hf, List.length_nil, Nat.zero_add, List.length_map, if_pos (And.intro hb hml), List.nil_append]
  refine .any rfl fun m _ => ?_
  have := h m
  simp only [List.map_append, List.map_replicate] at this
  exact this
theorem appR_nothing (z : AV) (hs : Enc.sz α = esz) : appR A (some d) e esz bytes z (enc ([] : List α)) rest (.c0 q) = aops rest (A.putO (some d) (.c0 q)) := by
  have h1 : srcL A esz (.c0 q) = some [] := rfl
  simp only [appR, h1, srcL_enc A esz ([] : List α) hs, appO, List.map_nil, if_true]

/-- The places of a slice's variable, cleared from one on. -/
theorem o_clr (esz : Nat) (z : AV) (x : AOpd) (rest : List G) (A : AState) : opR A none (.clr esz z x) rest = clrO A esz z (aops rest) (ev A x) := rfl
theorem shs_rep (z : α) (k : Nat) : AV.shs (List.replicate k (enc z)) = List.replicate k (Enc.sh α) := by
  have : List.replicate k (enc z) = (List.replicate k z).map (enc (α := α)) := by simp
  rw [this, shs_map]; simp
theorem clrO_enc (z : α) {n lo k : Nat} {xs : List α} (ho : A.o n = some (.box (.agg (xs.map enc)))) (hk : lo + k ≤ xs.length) :
    clrO A esz (enc z) (aops rest) (.view n [] esz lo k) = aops rest (A.setO n (.box (.agg ((xs.take lo ++ (List.replicate k z ++ xs.drop (lo + k))).map enc)))) := by
  have h1 : AV.shs (List.replicate k (enc z)) = AV.shs (((xs.map (enc (α := α))).drop lo).take k) := by
    rw [shs_rep, ← List.map_drop, ← List.map_take, shs_map, List.length_take, List.length_drop]
    congr 1; omega
  have h2 : (AV.agg (xs.map (enc (α := α)))).at [] = some (.agg (xs.map enc)) := rfl
  simp only [clrO, ho, h2]
  rw [if_pos ⟨rfl, h1⟩]
  simp only [setSeg, setAt_nil, List.map_append, List.map_take, List.map_drop, List.map_replicate, List.length_replicate]

theorem sliceV_hi {n : Nat} {p : List Nat} {sz k total i : Nat} (h : i ≤ total) (h0 : 0 < total) : sliceV n p sz 0 k total none (some (.int .i64 i)) none = some (.view n p sz 0 i) := by
  simp only [sliceV, bound]
  rw [if_pos ⟨by omega, by omega, by omega⟩, if_neg (by omega)]
  simp
theorem sliceV_lo {n : Nat} {p : List Nat} {sz k total i : Nat} (h : i ≤ k) (hk : k ≤ total) (h0 : i < total) : sliceV n p sz 0 k total (some (.int .i64 i)) none none = some (.view n p sz i (k - i)) := by
  simp only [sliceV, bound]
  rw [if_pos ⟨by omega, by omega, by omega⟩, if_neg (by omega)]
  simp
theorem isV_ok {m : Nat} {p : List Nat} {sz lo l j : Nat} {fs : List AV} (h : j < l) : isV m p sz lo l sz (j : Int) (some fs) = some (.ptr m (p ++ [lo + j])) := by
  simp only [isV, true_and]
  rw [if_pos ⟨by omega, by omega⟩]
  simp
theorem finV_take {sz k : Nat} {xs : List α} (hs : Enc.sz α = sz) : finV sz 0 k (some (xs.map enc)) = some (enc (xs.take k)) := by
  have h : ((xs.map (enc (α := α))).drop 0).take k = (xs.take k).map enc := by rw [List.drop_zero, List.map_take]
  simp only [finV, h]
  rw [if_pos (closeds_map _), e_list, hs]
end
end

theorem isE_view (A : AState) (esz m : Nat) (p : List Nat) (sz lo l : Nat) (k : Int) : isE A esz k (.view m p sz lo l) = isV m p sz lo l esz k (fldsO (derefP p (A.o m))) := rfl
theorem lenE_view (A : AState) (m : Nat) (p : List Nat) (sz lo l : Nat) : lenE A (.view m p sz lo l) = some (.int .i64 l) := rfl
theorem slE_view (A : AState) (esz : Nat) (lo hi mx : Option AV) (n : Nat) (p : List Nat) (l0 k : Nat) : slE A esz lo hi mx (.view n p esz l0 k) = slV n p esz l0 k esz lo hi mx (fldsO (derefP p (A.o n))) := rfl
theorem slV_some (n : Nat) (p : List Nat) (sz l0 k : Nat) (lo hi mx : Option AV) (fs : List AV) : slV n p sz l0 k sz lo hi mx (some fs) = sliceV n p sz l0 k fs.length lo hi mx := by simp [slV]
theorem viewR :
    (∀ A esz m p sz lo l k, isE A esz k (.view m p sz lo l) = isV m p sz lo l esz k (fldsO (derefP p (A.o m)))) ∧ (∀ A m p sz lo l, lenE A (.view m p sz lo l) = some (.int .i64 l)) ∧
    (∀ A esz lo hi mx n p l0 k, slE A esz lo hi mx (.view n p esz l0 k) = slV n p esz l0 k esz lo hi mx (fldsO (derefP p (A.o n)))) ∧ (∀ n p sz l0 k lo hi mx fs, slV n p sz l0 k sz lo hi mx (some fs) = sliceV n p sz l0 k fs.length lo hi mx) ∧
    (∀ esz z x rest A, opR A none (.clr esz z x) rest = clrO A esz z (aops rest) (ev A x)) ∧ (∀ rest A d esz, opR A d (.bs0 esz) rest = aops rest (A.putO d (.c0 esz))) :=
  ⟨isE_view, lenE_view, slE_view, slV_some, o_clr, fun _ _ _ _ => rfl⟩

theorem retO_ret (rs : List RV) (post : Post) (A : AState) : retO rs post .ret A = RetO rs post A := rfl
theorem retO_normal (rs : List RV) (post : Post) (A : AState) : retO rs post .normal A = RetO rs post A := rfl

end Go.Abs

/-
  FUNCTIONS OF slices BY CONTRACT, over given marks: Clone, DeleteFunc.
-/
namespace Go.Proofs.Ytkjkbpgdpnapfaa
open Go Go.Abs
open Go.Abs.Enc (enc)

instance : Lean0 Given := ⟨fun g => by
  show (AV.agg [.int .i64 g.owner, enc g.mark]).lean = true
  simp only [AV.lean, AV.leans, e_lean, Bool.and_self]⟩

def g0 : Given := ⟨0, zero6⟩
theorem e_g0 : AV.agg [.int .i64 0, .agg [.int .i64 0, .int .i64 0, .int .i64 0, .int .i64 0, .int .i64 0, .int .i64 0]] = enc g0 := rfl

theorem map_only (p : Nat → Bool) (l : List Given) : (AV.agg (l.map enc)).only p = true := by simp only [AV.only]; exact onlys_map p l
theorem map_lean (l : List Given) : (AV.agg (l.map enc)).lean = true := by simp only [AV.lean]; exact leans_map l

/-- A slice of given marks of the caller's own, with room behind it. -/
def rowG (k : Nat) (l : List Given) (m : Nat) : List (Nat × AO) := [(k, .box (.agg ((l ++ List.replicate m g0).map enc)))]

def clonePost (l : List Given) : Post := fun r os' => (l = [] ∧ (r = .nils 7 ∨ r = .c0 7) ∧ os' = []) ∨ (l ≠ [] ∧ ∃ m, r = .view 7 [] 7 0 l.length ∧ os' = rowG 7 l m)

theorem F85 (l : List Given) (hl : l.length ≤ 1000) : CtrO Try.prog 85 [enc l] [] (clonePost l) := by
  refine CtrO.mk' Try.func85 ca85 cc85 cr85 (Nat.le_of_ble_eq_true rfl) (Nat.le_of_ble_eq_true rfl) (fun m hm => by simp [isIn, lookO] at hm) (fun hwf W0 D0 E1 => ?_)
  simp only [c85, r85, idx, Nat.zero_add, Nat.reduceAdd]
  refine AW.seq (AW.reg cd85_0 fun K hK => ?_)
  simp only [g85_0, bR, Nat.reduceEqDiff, reduceIte, Int.reduceBNe, Int.reduceBEq]
  refine .done (hK _ ?_); clear hK K; simp only [thenQ, blockQ]
  refine AW.seq (AW.seq ?_)
  by_cases hn : l = []
  · subst hn
    refine AW.reg cd85_1 fun K hK => ?_
    simp only [g85_1, bR, Nat.reduceEqDiff, reduceIte, Int.reduceBNe, Int.reduceBEq]
    simp only [und_enc, List.isEmpty_nil, nilR]
    refine .any rfl fun b _ => ?_
    simp only [bR, Nat.reduceEqDiff, reduceIte, Int.reduceBNe, Int.reduceBEq]
    generalize (b == 0) = t
    cases t
    · refine .done (hK _ ?_); clear hK K; simp only [thenQ, blockQ]
      refine AW.ite ?_
      simp only [condQ, bR, Nat.reduceEqDiff, reduceIte, Int.reduceBNe, Int.reduceBEq]
      refine ⟨fun h => ?_, fun h => ?_⟩
      · cases h
      refine AW.skip ?_; simp only [thenQ, blockQ, reduceIte, Nat.reduceEqDiff]
      refine AW.seq (AW.reg cd85_3 fun K hK => ?_)
      simp only [g85_3, bR, Nat.reduceEqDiff, reduceIte, Int.reduceBNe, Int.reduceBEq]
      simp only [viewR, e_g0, appR_nothing (α := Given) _ rfl, bR, Nat.reduceEqDiff, reduceIte, Int.reduceBNe, Int.reduceBEq]
      refine .done (hK _ ?_); clear hK K; simp only [thenQ, blockQ]
      refine AW.ret ?_
      simp only [blockQ, thenQ, retO_ret]
      exact ⟨[], [.c0 7], held0, ⟨⟨.c0 7, rfl, .inl ⟨rfl, rfl, rfl⟩⟩, trivial⟩, .inl ⟨rfl, .inr rfl, rfl⟩⟩
    · refine .done (hK _ ?_); clear hK K; simp only [thenQ, blockQ]
      refine AW.ite ?_
      simp only [condQ, bR, Nat.reduceEqDiff, reduceIte, Int.reduceBNe, Int.reduceBEq]
      refine ⟨fun h => ?_, fun h => ?_⟩
      · refine AW.seq (AW.reg cd85_2 fun K hK => ?_)
        simp only [g85_2, bR, Nat.reduceEqDiff, reduceIte, Int.reduceBNe, Int.reduceBEq]
        refine .done (hK _ ?_); clear hK K; simp only [thenQ, blockQ]
        refine AW.ret ?_
        simp only [blockQ, thenQ, retO_ret]
        exact ⟨[], [.nils 7], held0, ⟨⟨.nils 7, rfl, .inl ⟨rfl, rfl, rfl⟩⟩, trivial⟩, .inl ⟨rfl, .inl rfl, rfl⟩⟩
      · cases h
  · have hu : und (enc l) = false := by rw [und_enc]; simpa using hn
    refine AW.reg cd85_1 fun K hK => ?_
    simp only [g85_1, bR, Nat.reduceEqDiff, reduceIte, Int.reduceBNe, Int.reduceBEq]
    simp only [hu, nilE_enc _ l hn, bR, Nat.reduceEqDiff, reduceIte, Int.reduceBNe, Int.reduceBEq]
    refine .done (hK _ ?_); clear hK K; simp only [thenQ, blockQ]
    refine AW.ite ?_
    simp only [condQ, bR, Nat.reduceEqDiff, reduceIte, Int.reduceBNe, Int.reduceBEq]
    refine ⟨fun h => ?_, fun h => ?_⟩
    · cases h
    refine AW.skip ?_; simp only [thenQ, blockQ, reduceIte, Nat.reduceEqDiff]
    refine AW.seq (AW.reg cd85_3 fun K hK => ?_)
    simp only [g85_3, bR, Nat.reduceEqDiff, reduceIte, Int.reduceBNe, Int.reduceBEq]
    simp only [viewR, e_g0, bR, Nat.reduceEqDiff, reduceIte, Int.reduceBNe, Int.reduceBEq]
    refine WP.appNew g0 rfl hn rfl (by omega) (by simp only [maxLen]; omega) fun m => ?_
    simp only [bR, Nat.reduceEqDiff, reduceIte, Int.reduceBNe, Int.reduceBEq]
    refine .done (hK _ ?_); clear hK K; simp only [thenQ, blockQ]
    refine AW.ret ?_
    simp only [blockQ, thenQ, retO_ret]
    exact ⟨rowG 7 l m, [.view 7 [] 7 0 l.length], held1 rfl (fun p => map_only p _), ⟨⟨_, rfl, .inl ⟨rfl, rfl, rfl⟩⟩, trivial⟩, .inr ⟨hn, m, rfl, rfl⟩⟩

end Go.Proofs.Ytkjkbpgdpnapfaa

/-
  FUNCTIONS OF slices BY CONTRACT, over given marks: DeleteFunc.
-/
namespace Go.Proofs.Ytkjkbpgdpnapfaa
open Go Go.Abs
open Go.Abs.Enc (enc)

theorem F73n (f : FuncId) (caps : List AV) (hcaps : AV.dones caps = true) : Ctr Try.prog 73 [enc ([] : List Given), .func f caps] (enc ([] : List Given)) := by
  refine Ctr.mk' Try.func73 ca73 cc73 cr73 (Nat.le_of_ble_eq_true rfl) (fun hwf W0 D0 E1 => ?_)
  simp only [c73, r73, idx, Nat.zero_add, Nat.reduceAdd]
  have hcl : AV.closeds caps = true := dones_closed caps hcaps
  have hfc : ∀ bx A, fins bx A caps = some caps := fun bx A => fins_dones bx A caps hcaps
  refine AW.seq (AW.reg cd73_0 fun K hK => ?_)
  simp only [g73_0, bR, Nat.reduceEqDiff, reduceIte, Int.reduceBNe, Int.reduceBEq]
  refine .done (hK _ ?_); clear hK K; simp only [thenQ, blockQ]
  refine AW.seq (AW.reg cd73_1 fun K hK => ?_)
  simp only [g73_1, bR, Nat.reduceEqDiff, reduceIte, Int.reduceBNe, Int.reduceBEq]
  simp only [e_fin, hfc, bR, Nat.reduceEqDiff, reduceIte, Int.reduceBNe, Int.reduceBEq]
  refine .flat _ (F108 [] f caps hcaps (fun _ => false) (fun x hx => by cases hx)) rfl ?_
  simp only [List.findIdx?_nil, bR, Nat.reduceEqDiff, reduceIte, Int.reduceBNe, Int.reduceBEq]
  refine .done (hK _ ?_); clear hK K; simp only [thenQ, blockQ]
  refine AW.seq (AW.seq ?_)
  refine AW.reg cd73_2 fun K hK => ?_
  simp only [g73_2, bR, Nat.reduceEqDiff, reduceIte, Int.reduceBNe, Int.reduceBEq]
  refine .done (hK _ ?_); clear hK K; simp only [thenQ, blockQ]
  refine AW.ite ?_
  simp only [condQ, bR, Nat.reduceEqDiff, reduceIte, Int.reduceBNe, Int.reduceBEq]
  refine ⟨fun h => ?_, fun h => ?_⟩
  · refine AW.seq (AW.reg cd73_3 fun K hK => ?_)
    simp only [g73_3, bR, Nat.reduceEqDiff, reduceIte, Int.reduceBNe, Int.reduceBEq]
    refine .done (hK _ ?_); clear hK K; simp only [thenQ, blockQ]
    refine AW.ret ?_
    simp only [blockQ, thenQ, bR, Nat.reduceEqDiff, reduceIte, Int.reduceBNe, Int.reduceBEq]
    simp only [e_fin, bR, Nat.reduceEqDiff, reduceIte, Int.reduceBNe, Int.reduceBEq]
  · cases h

def keep (p : Given → Bool) (l : List Given) : List Given := l.filter fun x => !p x
def delPost (k : Nat) (l : List Given) : Post := fun r os' => ∃ m, r = .view k [] 7 0 l.length ∧ os' = rowG k l m

theorem onlys_rep (p : Nat → Bool) (m : Nat) (x : Given) : AV.onlys p (List.replicate m (enc x)) = true := by
  have : List.replicate m (enc x) = (List.replicate m x).map (enc (α := Given)) := by simp
  rw [this]; exact onlys_map p _
theorem onlys_set (p : Nat → Bool) (xs : List Given) (i : Nat) (v : Given) : AV.onlys p ((xs.map enc).set i (enc v)) = true := by
  rw [← List.map_set]; exact onlys_map p _
theorem rowG_get {xs : List Given} {m j : Nat} (h : j < xs.length) : ((xs ++ List.replicate m g0).map (enc (α := Given)))[0 + j]? = some (enc xs[j]) := by
  rw [Nat.zero_add, List.getElem?_map, List.getElem?_append_left h, List.getElem?_eq_getElem h]; rfl
theorem rowG_set {xs : List Given} {m i : Nat} (h : i < xs.length) (v : Given) : ((xs ++ List.replicate m g0).map (enc (α := Given))).set (0 + i) (enc v) = (xs.set i v ++ List.replicate m g0).map enc := by
  rw [Nat.zero_add, ← List.map_set, List.set_append_left _ _ h]
theorem take_row (l : List Given) (m : Nat) : (l ++ List.replicate m g0).take l.length = l := List.take_left

theorem filter_take_succ (p : Given → Bool) (l : List Given) {j : Nat} (h : j < l.length) : keep p (l.take (j + 1)) = keep p (l.take j) ++ (if p l[j] then [] else [l[j]]) := by
  rw [List.take_succ_eq_append_getElem h]
  simp only [keep, List.filter_append, List.filter_cons, List.filter_nil]
  cases p l[j] <;> simp

theorem F73 (l : List Given) (f : FuncId) (caps : List AV) (hcaps : AV.dones caps = true) (p : Given → Bool) (hf : ∀ x ∈ l, Ctr Try.prog f (enc x :: caps) (enc (p x))) (hlen : l.length ≤ 1000) (m : Nat) :
    CtrO Try.prog 73 [.view 1000000 [] 7 0 l.length, .func f caps] (rowG 1000000 l m) (delPost 1000000 (keep p l)) := by
  refine CtrO.mk' Try.func73 ca73 cc73 cr73 (Nat.le_of_ble_eq_true rfl) (Nat.le_of_ble_eq_true rfl) (fun m hm => by rw [isIn_one.1 hm]; exact Nat.le_refl _) (fun hwf W0 D0 E1 => ?_)
  simp only [c73, r73, idx, Nat.zero_add, Nat.reduceAdd]
  have hcl : AV.closeds caps = true := dones_closed caps hcaps
  have hfc : ∀ bx A, fins bx A caps = some caps := fun bx A => fins_dones bx A caps hcaps
  have hon : ∀ q, AV.onlys q caps = true := fun q => onlys_closed q caps hcl
  simp only [rowG]
  refine AW.seq (AW.reg cd73_0 fun K hK => ?_)
  simp only [g73_0, bR, Nat.reduceEqDiff, reduceIte, Int.reduceBNe, Int.reduceBEq]
  refine .done (hK _ ?_); clear hK K; simp only [thenQ, blockQ]
  refine AW.seq (AW.reg cd73_1 fun K hK => ?_)
  simp only [g73_1, bR, Nat.reduceEqDiff, reduceIte, Int.reduceBNe, Int.reduceBEq]
  simp only [hfc, finV_take (α := Given) (sz := 7) rfl, take_row, bR, Nat.reduceEqDiff, reduceIte, Int.reduceBNe, Int.reduceBEq]
  refine .flat _ (F108 l f caps hcaps p hf) rfl ?_
  simp only [bR, Nat.reduceEqDiff, reduceIte, Int.reduceBNe, Int.reduceBEq]
  refine .done (hK _ ?_); clear hK K; simp only [thenQ, blockQ]
  generalize hfi : l.findIdx? p = fi
  cases fi with
  | none =>
    rw [List.findIdx?_eq_none_iff] at hfi
    have hk : keep p l = l := by
      simp only [keep, List.filter_eq_self]; intro x hx; simp [hfi x hx]
    refine AW.seq (AW.seq ?_)
    refine AW.reg cd73_2 fun K hK => ?_
    simp only [g73_2, bR, Nat.reduceEqDiff, reduceIte, Int.reduceBNe, Int.reduceBEq]
    refine .done (hK _ ?_); clear hK K; simp only [thenQ, blockQ]
    refine AW.ite ?_
    simp only [condQ, bR, Nat.reduceEqDiff, reduceIte, Int.reduceBNe, Int.reduceBEq]
    refine ⟨fun h => ?_, fun h => ?_⟩
    · refine AW.seq (AW.reg cd73_3 fun K hK => ?_)
      simp only [g73_3, bR, Nat.reduceEqDiff, reduceIte, Int.reduceBNe, Int.reduceBEq]
      refine .done (hK _ ?_); clear hK K; simp only [thenQ, blockQ]
      refine AW.ret ?_
      simp only [blockQ, thenQ, retO_ret]
      rw [hk]
      exact ⟨rowG 1000000 l m, [.view 1000000 [] 7 0 l.length], held1 rfl (fun p => map_only p _), ⟨⟨_, rfl, .inl ⟨rfl, rfl, rfl⟩⟩, trivial⟩, m, rfl, rfl⟩
    · cases h
  | some i0 =>
    obtain ⟨q1, q2, q3⟩ := List.findIdx?_eq_some_iff_getElem.1 hfi
    have hstart : l.take i0 = keep p (l.take (i0 + 1)) := by
      rw [filter_take_succ p l q1, q2]
      simp only [if_true, List.append_nil, keep]
      symm
      rw [List.filter_eq_self]
      intro x hx
      rw [List.mem_take_iff_getElem] at hx
      obtain ⟨j, hj, rfl⟩ := hx
      have := q3 j (by omega)
      simpa using this
    refine AW.seq (AW.seq ?_)
    refine AW.reg cd73_2 fun K hK => ?_
    simp only [g73_2, bR, Nat.reduceEqDiff, reduceIte, Int.reduceBNe, Int.reduceBEq]
    refine .done (hK _ ?_); clear hK K; simp only [thenQ, blockQ]
    refine AW.ite ?_
    simp only [condQ, bR, Nat.reduceEqDiff, reduceIte, Int.reduceBNe, Int.reduceBEq]
    refine ⟨fun h => ?_, fun h => ?_⟩
    · simp at h
    refine AW.skip ?_; simp only [thenQ, blockQ, reduceIte, Nat.reduceEqDiff]
    refine AW.seq (AW.seq ?_)
    refine AW.reg cd73_4 fun K hK => ?_
    simp only [g73_4, bR, Nat.reduceEqDiff, reduceIte, Int.reduceBNe, Int.reduceBEq]
    refine .done (hK _ ?_); clear hK K; simp only [thenQ, blockQ]
    refine AW.block (AW.loop (fun s : List Given × Nat × Nat => mkA [(0, .view 1000000 [] 7 0 l.length), (1, .func f caps), (5, .int .i64 s.2.1), (6, .int .i64 s.2.2)] [(1000000, .box (.agg ((s.1 ++ List.replicate m g0).map enc)))])
      (fun s => s.1.length = l.length ∧ s.2.1 < s.2.2 ∧ s.2.2 ≤ l.length ∧ s.1.take s.2.1 = keep p (l.take s.2.2) ∧ s.1.drop s.2.2 = l.drop s.2.2) (fun s => l.length - s.2.2) (l, i0, i0 + 1) ⟨rfl, by simp only; omega, by simp only; omega, hstart, rfl⟩ ?_ ?_)
    · rw [wrap_id _ (by omega) (by omega)]
      refine Sub.of_lists ?_ ?_ ?_ ?_ <;> simp [subT, subO, onlyT, onlyO, isIn, look_cons, lookO_cons, lookO_nil, AV.only, AV.onlys, AO.only, onlys_map, onlys_append, e_only, e_int, e_bool, hon, onlys_rep, onlys_set]
    · rintro ⟨xs, i, j⟩ ⟨c1, c2, c3, c4, c5⟩
      simp only at c1 c2 c3 c4 c5 ⊢
      refine AW.seq (AW.seq ?_)
      refine AW.reg cd73_5 fun K hK => ?_
      simp only [g73_5, bR, Nat.reduceEqDiff, reduceIte, Int.reduceBNe, Int.reduceBEq]
      simp only [viewR, bR, Nat.reduceEqDiff, reduceIte, Int.reduceBNe, Int.reduceBEq]
      refine .done (hK _ ?_); clear hK K; simp only [thenQ, blockQ]
      refine AW.ite ?_
      simp only [condQ, bR, Nat.reduceEqDiff, reduceIte, Int.reduceBNe, Int.reduceBEq]
      refine ⟨fun h => ?_, fun h => ?_⟩
      · have hj : j < l.length := by simpa using h
        have hjx : j < xs.length := by omega
        have hix : i < xs.length := by omega
        have hxj : xs[j] = l[j] := by
          have h1 : (xs.drop j)[0]? = (l.drop j)[0]? := by rw [c5]
          simpa [hj, hjx] using h1
        refine AW.skip ?_; simp only [thenQ, blockQ, reduceIte, Nat.reduceEqDiff]
        refine AW.seq (AW.block ?_)
        refine AW.seq (AW.reg cd73_6 fun K hK => ?_)
        simp only [g73_6, bR, Nat.reduceEqDiff, reduceIte, Int.reduceBNe, Int.reduceBEq]
        simp only [viewR, isV_ok (sz := 7) hj, List.nil_append, bR, Nat.reduceEqDiff, reduceIte, Int.reduceBNe, Int.reduceBEq]
        simp only [rowG_get hjx, hxj, typR, bR, Nat.reduceEqDiff, reduceIte, Int.reduceBNe, Int.reduceBEq]
        rw [stR3_ok (e_isVal _) (by rw [e_okS]; rfl) ((e_sh _).trans rfl)]
        simp only [typR, useR, okR, bR, Nat.reduceEqDiff, reduceIte, Int.reduceBNe, Int.reduceBEq]
        refine .done (hK _ ?_); clear hK K; simp only [thenQ, blockQ]
        refine AW.seq (AW.reg cd73_7 fun K hK => ?_)
        simp only [g73_7, bR, Nat.reduceEqDiff, reduceIte, Int.reduceBNe, Int.reduceBEq]
        simp only [typR, useR, okR, e_fin, hfc, List.cons_append, List.nil_append, bR, Nat.reduceEqDiff, reduceIte, Int.reduceBNe, Int.reduceBEq]
        refine .flat _ (hf _ (List.getElem_mem hj)) rfl ?_
        simp only [bR, Nat.reduceEqDiff, reduceIte, Int.reduceBNe, Int.reduceBEq]
        refine .done (hK _ ?_); clear hK K; simp only [thenQ, blockQ]
        refine AW.ite ?_
        simp only [condQ, bR, Nat.reduceEqDiff, reduceIte, Int.reduceBNe, Int.reduceBEq]
        refine ⟨fun h => ?_, fun h => ?_⟩
        · have hpj : p l[j] = false := by simpa using h
          refine AW.seq (AW.reg cd73_8 fun K hK => ?_)
          simp only [g73_8, bR, Nat.reduceEqDiff, reduceIte, Int.reduceBNe, Int.reduceBEq]
          simp only [typR, useR, okR, e_fin, viewR, isV_ok (sz := 7) (show i < l.length by omega), List.nil_append, bR, Nat.reduceEqDiff, reduceIte, Int.reduceBNe, Int.reduceBEq]
          simp only [rowG_get hix, bR, Nat.reduceEqDiff, reduceIte, Int.reduceBNe, Int.reduceBEq]
          rw [stR3_ok (e_isVal _) (by rw [e_okS]; rfl) ((e_sh _).trans (e_sh _).symm)]
          simp only [rowG_get hix, rowG_set hix, bR, Nat.reduceEqDiff, reduceIte, Int.reduceBNe, Int.reduceBEq]
          refine .done (hK _ ?_); clear hK K; simp only [thenQ, blockQ]
          refine AW.reg cd73_9 fun K hK => ?_
          simp only [g73_9, bR, Nat.reduceEqDiff, reduceIte, Int.reduceBNe, Int.reduceBEq]
          refine .done (hK _ ?_); clear hK K; simp only [thenQ, blockQ]
          refine AW.reg cd73_10 fun K hK => ?_
          simp only [g73_10, bR, Nat.reduceEqDiff, reduceIte, Int.reduceBNe, Int.reduceBEq]
          refine .done (hK _ ?_); clear hK K; simp only [thenQ, blockQ]
          refine ⟨(xs.set i l[j], i + 1, j + 1), ⟨by simp [c1], by simp only; omega, by simp only; omega, ?_, ?_⟩, by simp only; omega, ?_⟩
          · simp only
            rw [filter_take_succ p l hj, hpj, ← c4]
            simp only [Bool.false_eq_true, if_false]
            rw [List.take_succ_eq_append_getElem (by simpa using hix), List.take_set_of_le (Nat.le_refl _)]
            simp
          · simp only
            rw [List.drop_set_of_lt (by omega)]
            have : (xs.drop j).drop 1 = (l.drop j).drop 1 := by rw [c5]
            simpa [List.drop_drop] using this
          · simp only
            rw [wrap_id _ (by omega) (by omega), wrap_id _ (by omega) (by omega)]
            refine Sub.of_lists ?_ ?_ ?_ ?_ <;> simp [subT, subO, onlyT, onlyO, isIn, look_cons, lookO_cons, lookO_nil, AV.only, AV.onlys, AO.only, onlys_map, onlys_append, e_only, e_int, e_bool, hon, onlys_rep, onlys_set]
        · have hpj : p l[j] = true := by simpa using h
          refine AW.skip ?_; simp only [thenQ, blockQ, reduceIte, Nat.reduceEqDiff]
          refine AW.reg cd73_10 fun K hK => ?_
          simp only [g73_10, bR, Nat.reduceEqDiff, reduceIte, Int.reduceBNe, Int.reduceBEq]
          refine .done (hK _ ?_); clear hK K; simp only [thenQ, blockQ]
          refine ⟨(xs, i, j + 1), ⟨c1, by simp only; omega, by simp only; omega, ?_, ?_⟩, by simp only; omega, ?_⟩
          · simp only
            rw [filter_take_succ p l hj, hpj, ← c4]
            simp
          · simp only
            have : (xs.drop j).drop 1 = (l.drop j).drop 1 := by rw [c5]
            simpa [List.drop_drop] using this
          · simp only
            rw [wrap_id _ (by omega) (by omega)]
            refine Sub.of_lists ?_ ?_ ?_ ?_ <;> simp [subT, subO, onlyT, onlyO, isIn, look_cons, lookO_cons, lookO_nil, AV.only, AV.onlys, AO.only, onlys_map, onlys_append, e_only, e_int, e_bool, hon, onlys_rep, onlys_set]
      · have hj : j = l.length := by simp at h; omega
        subst hj
        rw [List.take_length] at c4
        have hlk : (keep p l).length = i := by rw [← c4, List.length_take]; omega
        have htot : ((xs ++ List.replicate m g0).map (enc (α := Given))).length = l.length + m := by simp [c1]
        refine AW.exit ?_; simp only [thenQ, blockQ, reduceIte, Nat.reduceEqDiff]
        refine AW.seq (AW.reg cd73_11 fun K hK => ?_)
        simp only [g73_11, bR, Nat.reduceEqDiff, reduceIte, Int.reduceBNe, Int.reduceBEq]
        simp only [viewR, htot, Option.map_none, sliceV_lo (show i ≤ l.length by omega) (show l.length ≤ l.length + m by omega) (show i < l.length + m by omega), e_g0, bR, Nat.reduceEqDiff, reduceIte, Int.reduceBNe, Int.reduceBEq]
        rw [clrO_enc g0 rfl (by simp [c1]; omega)]
        have hcont : (xs ++ List.replicate m g0).take i ++ (List.replicate (l.length - i) g0 ++ (xs ++ List.replicate m g0).drop (i + (l.length - i))) = keep p l ++ List.replicate (l.length - i + m) g0 := by
          rw [List.take_append_of_le_length (by omega), c4]
          have e1 : i + (l.length - i) = xs.length := by omega
          rw [e1, List.drop_left, List.replicate_append_replicate]
        rw [hcont]
        simp only [bR, Nat.reduceEqDiff, reduceIte, Int.reduceBNe, Int.reduceBEq]
        refine .done (hK _ ?_); clear hK K; simp only [thenQ, blockQ]
        have htot2 : ((keep p l ++ List.replicate (l.length - i + m) g0).map (enc (α := Given))).length = l.length + m := by simp [hlk]; omega
        refine AW.seq (AW.reg cd73_12 fun K hK => ?_)
        simp only [g73_12, bR, Nat.reduceEqDiff, reduceIte, Int.reduceBNe, Int.reduceBEq]
        simp only [viewR, htot2, Option.map_none, sliceV_hi (show i ≤ l.length + m by omega) (show 0 < l.length + m by omega), bR, Nat.reduceEqDiff, reduceIte, Int.reduceBNe, Int.reduceBEq]
        refine .done (hK _ ?_); clear hK K; simp only [thenQ, blockQ]
        refine AW.ret ?_
        simp only [blockQ, thenQ, retO_ret]
        exact ⟨rowG 1000000 (keep p l) (l.length - i + m), [.view 1000000 [] 7 0 i], held1 rfl (fun p => map_only p _), ⟨⟨_, rfl, .inl ⟨rfl, rfl, rfl⟩⟩, trivial⟩, l.length - i + m, by rw [hlk]; rfl, rfl⟩

end Go.Proofs.Ytkjkbpgdpnapfaa

/-
  FUNCTIONS OF THE PACKAGE mark BY CONTRACT: possible, owners, Owners, Owner.
-/
namespace Go.Proofs.Ytkjkbpgdpnapfaa
open Go Go.Abs
open Go.Abs.Enc (enc)

theorem F105 (m : Marks) (r : Arr 6 Int) (g : Given) (hg : okMark g.mark = true) : Ctr Try.prog 105 (enc g :: [.ref (enc m), .ref (enc r)]) (enc (decide (m.fls < costOf m.wear g.mark r))) := by
  refine Ctr.mk' Try.func105 ca105 cc105 cr105 (Nat.le_of_ble_eq_true rfl) (fun hwf W0 D0 E1 => ?_)
  simp only [c105, r105, idx, Nat.zero_add, Nat.reduceAdd]
  refine AW.seq (AW.reg cd105_0 fun K hK => ?_)
  simp only [g105_0, bR, Nat.reduceEqDiff, reduceIte, Int.reduceBNe, Int.reduceBEq]
  simp only [e_isVal, bR, Nat.reduceEqDiff, reduceIte, Int.reduceBNe, Int.reduceBEq]
  refine .done (hK _ ?_); clear hK K; simp only [thenQ, blockQ]
  refine AW.seq (AW.reg cd105_1 fun K hK => ?_)
  simp only [g105_1, bR, Nat.reduceEqDiff, reduceIte, Int.reduceBNe, Int.reduceBEq]
  simp only [typR, useR, okR, e_fin, bR, Nat.reduceEqDiff, reduceIte, Int.reduceBNe, Int.reduceBEq]
  refine .flat _ (F88 m.wear g.mark r hg) rfl ?_
  simp only [typR, useR, okR, bR, Nat.reduceEqDiff, reduceIte, Int.reduceBNe, Int.reduceBEq]
  refine .done (hK _ ?_); clear hK K; simp only [thenQ, blockQ]
  refine AW.ret ?_
  simp only [blockQ, thenQ, bR, Nat.reduceEqDiff, reduceIte, Int.reduceBNe, Int.reduceBEq]

def possG (m : Marks) (r : Arr 6 Int) : List Given := keep (fun g => decide (m.fls < costOf m.wear g.mark r)) m.given
def possPost (d : Nat) (m : Marks) (r : Arr 6 Int) : Post := fun x os' => (possG m r = [] ∧ x = enc ([] : List Given) ∧ os' = []) ∨ ∃ k, x = .view d [] 7 0 (possG m r).length ∧ os' = rowG d (possG m r) k

theorem F65 (m : Marks) (r : Arr 6 Int) (hm : ∀ g ∈ m.given, okMark g.mark = true) (hlen : m.given.length ≤ 1000) : CtrO Try.prog 65 [enc m, enc r] [] (possPost 7 m r) := by
  refine CtrO.mk' Try.func65 ca65 cc65 cr65 (Nat.le_of_ble_eq_true rfl) (Nat.le_of_ble_eq_true rfl) (fun m hm => by simp [isIn, lookO] at hm) (fun hwf W0 D0 E1 => ?_)
  simp only [c65, r65, idx, Nat.zero_add, Nat.reduceAdd]
  refine AW.seq (AW.reg cd65_0 fun K hK => ?_)
  simp only [g65_0, bR, Nat.reduceEqDiff, reduceIte, Int.reduceBNe, Int.reduceBEq]
  simp only [e_isVal, bR, Nat.reduceEqDiff, reduceIte, Int.reduceBNe, Int.reduceBEq]
  refine .done (hK _ ?_); clear hK K; simp only [thenQ, blockQ]
  refine AW.seq (AW.reg cd65_1 fun K hK => ?_)
  simp only [g65_1, bR, Nat.reduceEqDiff, reduceIte, Int.reduceBNe, Int.reduceBEq]
  simp only [typR, useR, okR, e_fin, bR, Nat.reduceEqDiff, reduceIte, Int.reduceBNe, Int.reduceBEq]
  refine .obj false [(7, 7)] [] [enc m.given] (clonePost m.given) rfl (F85 m.given hlen) Gvn.nil ⟨.inl ⟨(e_ren _ _).symm, e_only _ _, e_isVal _⟩, trivial⟩ ?_ ?_
  · rintro x os' (⟨_, h | h, rfl⟩ | ⟨_, k, rfl, rfl⟩)
    · subst h; exact Bck.nil (fun _ => rfl) (fun h => by cases h)
    · subst h; exact Bck.nil (fun _ => rfl) (fun h => by cases h)
    · exact Bck.new1 (fun p => map_only p _) (fun h => by cases h) rfl (fun h => by cases h) rfl (by decide)
  · have hd : AV.dones [.ref (enc m), .ref (enc r)] = true := by simp only [AV.dones, AV.done, e_closed, Bool.and_self]
    rintro x os' (⟨hn, h, rfl⟩ | ⟨hn, k, rfl, rfl⟩)
    · have hp : possG m r = [] := by simp [possG, keep, hn]
      have key : ∀ x, (x = .nils 7 ∨ x = .c0 7) → fin true (mkA [] []) x = some (enc ([] : List Given)) := by rintro x (rfl | rfl) <;> rfl
      have hren : ∀ x : AV, (x = .nils 7 ∨ x = .c0 7) → x.ren (rnm [(7, 7)]) = x ∧ x.isVal = true := by rintro x (rfl | rfl) <;> exact ⟨by simp only [AV.ren], rfl⟩
      rw [(hren x h).1]
      simp only [renR, List.nil_append, List.all_cons, List.all_nil, AV.isVal, Bool.and_self, bR, Nat.reduceEqDiff, reduceIte, Int.reduceBNe, Int.reduceBEq]
      have hfx : ∀ A, fin true A x = some (enc ([] : List Given)) := fun A => by rcases h with rfl | rfl <;> simp only [fin, e_list, List.map_nil] <;> rfl
      refine .free [2, 3] (enc ([] : List Given)) rfl (F73n 105 [.ref (enc m), .ref (enc r)] hd) ?_ ?_ ?_
      · simp only [hfx, keepO, List.filter_cons, List.filter_nil, List.contains_cons, Nat.reduceBEq, Bool.or_false, Bool.or_true, Bool.true_or, BEq.rfl, e_closed, bR, Nat.reduceEqDiff, reduceIte, Int.reduceBNe, Int.reduceBEq]
      · simp [dropO, onlyO]
      · simp only [fgt, dropO, List.filter_cons, List.filter_nil, List.contains_cons, Nat.reduceBEq, Bool.or_false, Bool.or_true, Bool.true_or, BEq.rfl, List.map_cons, List.map_nil, bR, Nat.reduceEqDiff, reduceIte, Int.reduceBNe, Int.reduceBEq]
        refine .done (hK _ ?_); clear hK K; simp only [thenQ, blockQ]
        refine AW.ret ?_
        simp only [blockQ, thenQ, retO_ret]
        exact ⟨[], [enc ([] : List Given)], held0, ⟨⟨_, rfl, .inl ⟨rfl, rfl, rfl⟩⟩, trivial⟩, .inl ⟨hp, rfl, rfl⟩⟩
    · simp only [rowG, renR, rens_map_enc, List.cons_append, List.nil_append, List.all_cons, List.all_nil, AV.isVal, Bool.and_self, bR, Nat.reduceEqDiff, reduceIte, Int.reduceBNe, Int.reduceBEq]
      refine .obj true [(1000000, 7)] (rowG 1000000 m.given k) [.view 1000000 [] 7 0 m.given.length, .func 105 [.ref (enc m), .ref (enc r)]] (delPost 1000000 (possG m r)) rfl
        (F73 m.given 105 [.ref (enc m), .ref (enc r)] hd (fun g => decide (m.fls < costOf m.wear g.mark r)) (fun g hg => F105 m r g (hm g hg)) hlen k) ⟨?_, ?_⟩ ⟨.inl ⟨?_, ?_, rfl⟩, .inr ?_, trivial⟩ ?_ ?_
      · intro n x h
        simp only [rowG, lookO] at h
        split at h
        · rename_i hn'
          subst hn'
          simp only [Option.some.injEq] at h
          subst h
          exact ⟨by simp only [renR, rens_map_enc, bR, Nat.reduceEqDiff, reduceIte, Int.reduceBNe, Int.reduceBEq], map_only _ _, rfl⟩
        · cases h
      · intro a b ha hb _
        rw [isIn_one.1 ha, isIn_one.1 hb]
      · simp only [renR, bR, Nat.reduceEqDiff, reduceIte, Int.reduceBNe, Int.reduceBEq]
      · exact isIn_one.2 rfl
      · simp only [names, rowG, rnm, dropO, List.filter_cons, List.filter_nil, List.map_cons, List.map_nil, List.contains_cons, List.contains_nil, Nat.reduceBEq, Bool.or_false, Bool.or_true, Bool.true_or, BEq.rfl, e_closed, bR, Nat.reduceEqDiff, reduceIte, Int.reduceBNe, Int.reduceBEq]
      · rintro x os' ⟨k', rfl, rfl⟩
        exact Bck.one (fun p => map_only p _) (fun _ => map_lean _) (isIn_one.2 rfl) (fun _ => rfl)
      · rintro x os' ⟨k', rfl, rfl⟩
        simp only [rowG, renR, rens_map_enc, List.cons_append, List.nil_append, bR, Nat.reduceEqDiff, reduceIte, Int.reduceBNe, Int.reduceBEq]
        refine .done (hK _ ?_); clear hK K; simp only [thenQ, blockQ]
        refine AW.ret ?_
        simp only [blockQ, thenQ, retO_ret]
        exact ⟨rowG 7 (possG m r) k', [.view 7 [] 7 0 (possG m r).length], held1 rfl (fun p => map_only p _), ⟨⟨_, rfl, .inl ⟨rfl, rfl, rfl⟩⟩, trivial⟩, .inr ⟨k', rfl, rfl⟩⟩

end Go.Proofs.Ytkjkbpgdpnapfaa

/-
  FUNCTIONS OF THE PACKAGE mark BY CONTRACT: owners, Owners, Owner.
-/
namespace Go.Proofs.Ytkjkbpgdpnapfaa
open Go Go.Abs
open Go.Abs.Enc (enc)

def ownL (l : List Given) (i : Nat) : List Int := (l.take i).map (·.owner)
theorem ownL_zero (l : List Given) : ownL l 0 = [] := by simp [ownL]
theorem ownL_succ {l : List Given} {i : Nat} (h : i < l.length) : ownL l (i + 1) = ownL l i ++ [l[i].owner] := by
  simp only [ownL]; rw [List.take_succ_eq_append_getElem h, List.map_append]; rfl
theorem ownL_len {l : List Given} {i : Nat} (h : i ≤ l.length) : (ownL l i).length = i := by simp [ownL]; omega
theorem ownL_all (l : List Given) : ownL l l.length = l.map (·.owner) := by simp [ownL]

theorem F72 (l : List Given) (hlen : l.length ≤ 1000) : Ctr Try.prog 72 [enc l] (enc (l.map (·.owner))) := by
  refine Ctr.mk' Try.func72 ca72 cc72 cr72 (Nat.le_of_ble_eq_true rfl) (fun hwf W0 D0 E1 => ?_)
  simp only [c72, r72, idx, Nat.zero_add, Nat.reduceAdd]
  refine AW.seq (AW.reg cd72_0 fun K hK => ?_)
  simp only [g72_0, bR, Nat.reduceEqDiff, reduceIte, Int.reduceBNe, Int.reduceBEq]
  refine .done (hK _ ?_); clear hK K; simp only [thenQ, blockQ]
  refine AW.seq (AW.reg cd72_1 fun K hK => ?_)
  simp only [g72_1, bR, Nat.reduceEqDiff, reduceIte, Int.reduceBNe, Int.reduceBEq]
  refine .done (hK _ ?_); clear hK K; simp only [thenQ, blockQ]
  refine AW.seq ?_
  refine AW.seq (AW.reg cd72_2 fun K hK => ?_)
  simp only [g72_2, useR, bR, Nat.reduceEqDiff, reduceIte, Int.reduceBNe, Int.reduceBEq]
  refine .done (hK _ ?_); clear hK K; simp only [thenQ, blockQ]
  refine AW.block (AW.loop (fun i : Nat => mkA [(3, .own 3 (ownL l i).length), (6, enc l), (7, .int .i64 l.length), (8, .int .i64 i)] [(3, .row 3 1 ((ownL l i).map enc))]) (fun i => i ≤ l.length) (fun i => l.length - i) 0 (Nat.zero_le _) ?_ (fun i hi => ?_))
  · refine Sub.adoptL 3 3 3 1 1 ?_ ?_ ?_
    · simp only [absR, Nat.reduceEqDiff, reduceIte]
    · simp only [absR]
    · simp only [ownL_zero, List.map_nil, List.length_nil]
      refine Sub.of_lists ?_ ?_ ?_ ?_ <;> simp [subT, subO, onlyT, onlyO, isIn, look_cons, lookO_cons, lookO_nil, AV.only, AV.onlys, AO.only, onlys_map, onlys_append, e_only, e_int, e_bool]
  · refine AW.seq (AW.reg cd72_3 fun K hK => ?_)
    simp only [g72_3, bR, Nat.reduceEqDiff, reduceIte, Int.reduceBNe, Int.reduceBEq]
    refine .done (hK _ ?_); clear hK K; simp only [thenQ, blockQ]
    refine AW.seq ?_
    refine AW.ite ?_
    simp only [condQ, bR, Nat.reduceEqDiff, reduceIte, Int.reduceBNe, Int.reduceBEq]
    refine ⟨fun h => ?_, fun h => ?_⟩
    · have hlt : i < l.length := by simpa using h
      refine AW.skip ?_; simp only [thenQ, blockQ, reduceIte, Nat.reduceEqDiff]
      refine AW.seq (AW.block ?_)
      refine AW.seq (AW.reg cd72_4 fun K hK => ?_)
      simp only [g72_4, bR, Nat.reduceEqDiff, reduceIte, Int.reduceBNe, Int.reduceBEq]
      simp only [isE_nat 7 hlt rfl, typR, okR, bR, Nat.reduceEqDiff, reduceIte, Int.reduceBNe, Int.reduceBEq]
      rw [stR3_ok (e_isVal _) (by rw [e_okS]; rfl) ((e_sh _).trans rfl)]
      simp only [typR, useR, okR, bR, Nat.reduceEqDiff, reduceIte, Int.reduceBNe, Int.reduceBEq]
      refine .done (hK _ ?_); clear hK K; simp only [thenQ, blockQ]
      refine AW.reg cd72_5 fun K hK => ?_
      simp only [g72_5, bR, Nat.reduceEqDiff, reduceIte, Int.reduceBNe, Int.reduceBEq]
      simp only [typR, useR, okR, bR, Nat.reduceEqDiff, reduceIte, Int.reduceBNe, Int.reduceBEq]
      rw [appR3_enc 3 1 8 3 rfl rfl (by simp) (by simp [maxLen, ownL_len hi]; omega) (by simp [ownL_len hi]; omega)]
      simp only [bR, Nat.reduceEqDiff, reduceIte, Int.reduceBNe, Int.reduceBEq]
      refine .done (hK _ ?_); clear hK K; simp only [thenQ, blockQ]
      refine AW.reg cd72_6 fun K hK => ?_
      simp only [g72_6, bR, Nat.reduceEqDiff, reduceIte, Int.reduceBNe, Int.reduceBEq]
      refine .done (hK _ ?_); clear hK K; simp only [thenQ, blockQ]
      refine ⟨i + 1, by omega, by omega, ?_⟩
      rw [wrap_id _ (by omega) (by omega), ownL_succ hlt]
      refine Sub.of_lists ?_ ?_ ?_ ?_ <;> simp [subT, subO, onlyT, onlyO, isIn, look_cons, lookO_cons, lookO_nil, AV.only, AV.onlys, AO.only, onlys_map, onlys_append, e_only, e_int, e_bool]
    · have hge : i = l.length := by simp at h; omega
      subst hge
      refine AW.exit ?_; simp only [thenQ, blockQ, reduceIte, Nat.reduceEqDiff]
      refine AW.seq (AW.reg cd72_7 fun K hK => ?_)
      simp only [g72_7, bR, Nat.reduceEqDiff, reduceIte, Int.reduceBNe, Int.reduceBEq]
      refine .done (hK _ ?_); clear hK K; simp only [thenQ, blockQ]
      refine AW.ret ?_
      simp only [blockQ, thenQ, ownL_all, bR, Nat.reduceEqDiff, reduceIte, Int.reduceBNe, Int.reduceBEq]

theorem possG_owners (m : Marks) (r : Arr 6 Int) : (possG m r).map (·.owner) = ownersIn m r m.given := by
  simp only [possG, keep, ownersIn]
  congr 1
  refine List.filter_congr fun g _ => ?_
  by_cases h : m.fls < costOf m.wear g.mark r
  · have : ¬ costOf m.wear g.mark r ≤ m.fls := by omega
    simp [h, this]
  · have : costOf m.wear g.mark r ≤ m.fls := by omega
    simp [h, this]

theorem F26 (m : Marks) (r : Arr 6 Int) : Ctr Try.prog 26 [enc m, enc r] (.tuple [enc (ownersOf m r).1, enc (ownersOf m r).2]) := by
  refine Ctr.mk' Try.func26 ca26 cc26 cr26 (Nat.le_of_ble_eq_true rfl) (fun hwf W0 D0 E1 => ?_)
  simp only [c26, r26, idx, Nat.zero_add, Nat.reduceAdd]
  refine AW.seq (AW.reg cd26_0 fun K hK => ?_)
  simp only [g26_0, bR, Nat.reduceEqDiff, reduceIte, Int.reduceBNe, Int.reduceBEq]
  simp only [e_isVal, bR, Nat.reduceEqDiff, reduceIte, Int.reduceBNe, Int.reduceBEq]
  refine .done (hK _ ?_); clear hK K; simp only [thenQ, blockQ]
  refine AW.seq ?_
  refine AW.seq (AW.reg cd26_1 fun K hK => ?_)
  simp only [g26_1, bR, Nat.reduceEqDiff, reduceIte, Int.reduceBNe, Int.reduceBEq]
  simp only [typR, useR, okR, e_fin, bR, Nat.reduceEqDiff, reduceIte, Int.reduceBNe, Int.reduceBEq]
  refine .flat _ (F47 m) rfl ?_
  simp only [typR, useR, okR, e_fin, bR, Nat.reduceEqDiff, reduceIte, Int.reduceBNe, Int.reduceBEq]
  refine .flat _ (F45 r) rfl ?_
  simp only [typR, useR, okR, e_fin, bs2, bR, Nat.reduceEqDiff, reduceIte, Int.reduceBNe, Int.reduceBEq]
  refine .flat _ (F64 _) rfl ?_
  rw [first2 _ _ 13 12 (by decide) (by decide)]
  simp only [bR, Nat.reduceEqDiff, reduceIte, Int.reduceBNe, Int.reduceBEq]
  refine .done (hK _ ?_); clear hK K; simp only [thenQ, blockQ]
  generalize hw : okM m = bw
  generalize hr : okReading r = br
  cases bw
  · refine AW.seq (AW.reg cd26_2 fun K hK => ?_)
    simp only [g26_2, bR, Nat.reduceEqDiff, reduceIte, Int.reduceBNe, Int.reduceBEq]
    refine .done (hK _ ?_); clear hK K; simp only [thenQ, blockQ]
    refine AW.ite ?_
    simp only [condQ, bR, Nat.reduceEqDiff, reduceIte, Int.reduceBNe, Int.reduceBEq]
    refine ⟨fun h => ?_, fun h => ?_⟩
    · refine AW.seq (AW.reg cd26_3 fun K hK => ?_)
      simp only [g26_3, bR, Nat.reduceEqDiff, reduceIte, Int.reduceBNe, Int.reduceBEq]
      refine .done (hK _ ?_); clear hK K; simp only [thenQ, blockQ]
      refine AW.ret ?_
      simp only [blockQ, thenQ, bR, Nat.reduceEqDiff, reduceIte, Int.reduceBNe, Int.reduceBEq]
      simp [ownersOf, hw, nilInt]
    · cases h
  cases br
  · refine AW.seq (AW.reg cd26_2 fun K hK => ?_)
    simp only [g26_2, bR, Nat.reduceEqDiff, reduceIte, Int.reduceBNe, Int.reduceBEq]
    refine .done (hK _ ?_); clear hK K; simp only [thenQ, blockQ]
    refine AW.ite ?_
    simp only [condQ, bR, Nat.reduceEqDiff, reduceIte, Int.reduceBNe, Int.reduceBEq]
    refine ⟨fun h => ?_, fun h => ?_⟩
    · refine AW.seq (AW.reg cd26_3 fun K hK => ?_)
      simp only [g26_3, bR, Nat.reduceEqDiff, reduceIte, Int.reduceBNe, Int.reduceBEq]
      refine .done (hK _ ?_); clear hK K; simp only [thenQ, blockQ]
      refine AW.ret ?_
      simp only [blockQ, thenQ, bR, Nat.reduceEqDiff, reduceIte, Int.reduceBNe, Int.reduceBEq]
      simp [ownersOf, hw, hr, nilInt]
    · cases h
  refine AW.seq (AW.reg cd26_2 fun K hK => ?_)
  simp only [g26_2, bR, Nat.reduceEqDiff, reduceIte, Int.reduceBNe, Int.reduceBEq]
  refine .done (hK _ ?_); clear hK K; simp only [thenQ, blockQ]
  refine AW.ite ?_
  simp only [condQ, bR, Nat.reduceEqDiff, reduceIte, Int.reduceBNe, Int.reduceBEq]
  refine ⟨fun h => ?_, fun h => ?_⟩
  · cases h
  refine AW.skip ?_; simp only [thenQ, blockQ, reduceIte, Nat.reduceEqDiff]
  have hlen : m.given.length ≤ 1000 := by have := okM_len hw; omega
  have hpl : (possG m r).length ≤ 1000 := Nat.le_trans (List.length_filter_le _ _) hlen
  refine AW.seq (AW.reg cd26_4 fun K hK => ?_)
  simp only [g26_4, bR, Nat.reduceEqDiff, reduceIte, Int.reduceBNe, Int.reduceBEq]
  simp only [typR, useR, okR, e_fin, bR, Nat.reduceEqDiff, reduceIte, Int.reduceBNe, Int.reduceBEq]
  refine .obj false [(7, 18)] [] [enc m, enc r] (possPost 7 m r) rfl (F65 m r (okM_mark hw) hlen) Gvn.nil ⟨.inl ⟨(e_ren _ _).symm, e_only _ _, e_isVal _⟩, .inl ⟨(e_ren _ _).symm, e_only _ _, e_isVal _⟩, trivial⟩ ?_ ?_
  · rintro x os' (⟨_, rfl, rfl⟩ | ⟨k, rfl, rfl⟩)
    · exact Bck.nil (fun _ => rfl) (fun h => by cases h)
    · exact Bck.new1 (fun p => map_only p _) (fun h => by cases h) rfl (fun h => by cases h) rfl (by decide)
  · rintro x os' (⟨hp, rfl, rfl⟩ | ⟨k, rfl, rfl⟩)
    · simp only [e_ren, renR, List.nil_append, e_fin, bR, Nat.reduceEqDiff, reduceIte, Int.reduceBNe, Int.reduceBEq]
      refine .lead _ (F72 [] (by simp)) ?_
      simp only [List.map_nil, bR, Nat.reduceEqDiff, reduceIte, Int.reduceBNe, Int.reduceBEq]
      refine .done (hK _ ?_); clear hK K; simp only [thenQ, blockQ]
      refine AW.ret ?_
      simp only [blockQ, thenQ, bR, Nat.reduceEqDiff, reduceIte, Int.reduceBNe, Int.reduceBEq]
      simp only [e_fin, bR, Nat.reduceEqDiff, reduceIte, Int.reduceBNe, Int.reduceBEq]
      simp [ownersOf, hw, hr, ← possG_owners, hp]
    · simp only [rowG, renR, rens_map_enc, List.cons_append, List.nil_append, bR, Nat.reduceEqDiff, reduceIte, Int.reduceBNe, Int.reduceBEq]
      refine .free [18] _ rfl (F72 (possG m r) hpl) ?_ ?_ ?_
      · simp only [keepO, List.filter_cons, List.filter_nil, List.contains_cons, List.contains_nil, Nat.reduceBEq, Bool.or_false, Bool.or_true, Bool.true_or, BEq.rfl, finV_take (α := Given) (sz := 7) rfl, take_row, bR, Nat.reduceEqDiff, reduceIte, Int.reduceBNe, Int.reduceBEq]
      · simp [dropO, onlyO, AO.only, e_only]
      · simp only [fgt, dropO, List.filter_cons, List.filter_nil, List.contains_cons, List.contains_nil, Nat.reduceBEq, Bool.or_false, Bool.or_true, Bool.true_or, BEq.rfl, AV.only, e_only, bR, Nat.reduceEqDiff, reduceIte, Int.reduceBNe, Int.reduceBEq]
        refine .done (hK _ ?_); clear hK K; simp only [thenQ, blockQ]
        refine AW.ret ?_
        simp only [blockQ, thenQ, bR, Nat.reduceEqDiff, reduceIte, Int.reduceBNe, Int.reduceBEq]
        simp only [e_fin, bR, Nat.reduceEqDiff, reduceIte, Int.reduceBNe, Int.reduceBEq]
        simp [ownersOf, hw, hr, possG_owners]

theorem F29 (m : Marks) (r : Arr 6 Int) : Ctr Try.prog 29 [enc m, enc r] (.tuple [enc (ownerOf m r).1, enc (ownerOf m r).2]) := by
  refine Ctr.mk' Try.func29 ca29 cc29 cr29 (Nat.le_of_ble_eq_true rfl) (fun hwf W0 D0 E1 => ?_)
  simp only [c29, r29, idx, Nat.zero_add, Nat.reduceAdd]
  refine AW.seq (AW.reg cd29_0 fun K hK => ?_)
  simp only [g29_0, bR, Nat.reduceEqDiff, reduceIte, Int.reduceBNe, Int.reduceBEq]
  simp only [e_isVal, bR, Nat.reduceEqDiff, reduceIte, Int.reduceBNe, Int.reduceBEq]
  refine .done (hK _ ?_); clear hK K; simp only [thenQ, blockQ]
  refine AW.seq (AW.reg cd29_1 fun K hK => ?_)
  simp only [g29_1, bR, Nat.reduceEqDiff, reduceIte, Int.reduceBNe, Int.reduceBEq]
  simp only [typR, useR, okR, e_fin, bR, Nat.reduceEqDiff, reduceIte, Int.reduceBNe, Int.reduceBEq]
  refine .lead _ (F26 m r) ?_
  simp only [List.getElem?_cons_zero, List.getElem?_cons_succ, bR, Nat.reduceEqDiff, reduceIte, Int.reduceBNe, Int.reduceBEq]
  refine .done (hK _ ?_); clear hK K; simp only [thenQ, blockQ]
  generalize hl : (ownersOf m r).1 = l
  generalize he : (ownersOf m r).2 = e
  refine AW.seq (AW.block ?_)
  refine AW.seq (AW.reg cd29_2 fun K hK => ?_)
  simp only [g29_2, bR, Nat.reduceEqDiff, reduceIte, Int.reduceBNe, Int.reduceBEq]
  refine .done (hK _ ?_); clear hK K; simp only [thenQ, blockQ]
  refine AW.ite ?_
  simp only [condQ, bR, Nat.reduceEqDiff, reduceIte, Int.reduceBNe, Int.reduceBEq]
  refine ⟨fun h => ?_, fun h => ?_⟩
  · have h' : e ≠ 0 := by simpa using h
    refine AW.seq (AW.reg cd29_3 fun K hK => ?_)
    simp only [g29_3, bR, Nat.reduceEqDiff, reduceIte, Int.reduceBNe, Int.reduceBEq]
    refine .done (hK _ ?_); clear hK K; simp only [thenQ, blockQ]
    refine AW.ret ?_
    simp only [blockQ, thenQ, bR, Nat.reduceEqDiff, reduceIte, Int.reduceBNe, Int.reduceBEq]
    simp [ownerOf, he, h']
  have h' : e = 0 := by simpa using h
  subst h'
  refine AW.seq (AW.reg cd29_4 fun K hK => ?_)
  simp only [g29_4, bR, Nat.reduceEqDiff, reduceIte, Int.reduceBNe, Int.reduceBEq]
  simp only [useR, bR, Nat.reduceEqDiff, reduceIte, Int.reduceBNe, Int.reduceBEq]
  refine .done (hK _ ?_); clear hK K; simp only [thenQ, blockQ]
  refine AW.ite ?_
  simp only [condQ, bR, Nat.reduceEqDiff, reduceIte, Int.reduceBNe, Int.reduceBEq]
  refine ⟨fun h => ?_, fun h => ?_⟩
  · have hn : l = [] := by simpa using h
    subst hn
    refine AW.seq (AW.reg cd29_5 fun K hK => ?_)
    simp only [g29_5, bR, Nat.reduceEqDiff, reduceIte, Int.reduceBNe, Int.reduceBEq]
    refine .done (hK _ ?_); clear hK K; simp only [thenQ, blockQ]
    refine AW.ret ?_
    simp only [blockQ, thenQ, bR, Nat.reduceEqDiff, reduceIte, Int.reduceBNe, Int.reduceBEq]
    simp [ownerOf, he, hl]
  have hn : l ≠ [] := by simpa using h
  have hpos : 0 < l.length := List.length_pos_iff.2 hn
  refine AW.seq (AW.reg cd29_6 fun K hK => ?_)
  simp only [g29_6, bR, Nat.reduceEqDiff, reduceIte, Int.reduceBNe, Int.reduceBEq]
  simp only [useR, bR, Nat.reduceEqDiff, reduceIte, Int.reduceBNe, Int.reduceBEq]
  refine .done (hK _ ?_); clear hK K; simp only [thenQ, blockQ]
  refine AW.ite ?_
  simp only [condQ, bR, Nat.reduceEqDiff, reduceIte, Int.reduceBNe, Int.reduceBEq]
  refine ⟨fun h => ?_, fun h => ?_⟩
  · have h2 : 1 < l.length := by simp at h; omega
    refine AW.seq (AW.reg cd29_7 fun K hK => ?_)
    simp only [g29_7, bR, Nat.reduceEqDiff, reduceIte, Int.reduceBNe, Int.reduceBEq]
    refine .done (hK _ ?_); clear hK K; simp only [thenQ, blockQ]
    refine AW.ret ?_
    simp only [blockQ, thenQ, bR, Nat.reduceEqDiff, reduceIte, Int.reduceBNe, Int.reduceBEq]
    match l, h2 with
    | a :: b :: r', _ => simp [ownerOf, he, hl]
  · have h2 : l.length = 1 := by simp at h; omega
    refine AW.skip ?_; simp only [thenQ, blockQ, reduceIte, Nat.reduceEqDiff]
    refine AW.seq (AW.reg cd29_8 fun K hK => ?_)
    simp only [g29_8, bR, Nat.reduceEqDiff, reduceIte, Int.reduceBNe, Int.reduceBEq]
    have hz : isE (mkA [] []) 1 (0 : Int) (enc l) = some (.ref (enc (l[0]'hpos))) := isE_nat 1 (k := 0) hpos rfl
    have hz' : ∀ A, isE A 1 (0 : Int) (enc l) = some (.ref (enc (l[0]'hpos))) := fun A => isE_nat 1 (k := 0) hpos rfl
    simp only [hz', okR, bR, Nat.reduceEqDiff, reduceIte, Int.reduceBNe, Int.reduceBEq]
    refine .done (hK _ ?_); clear hK K; simp only [thenQ, blockQ]
    refine AW.ret ?_
    simp only [blockQ, thenQ, bR, Nat.reduceEqDiff, reduceIte, Int.reduceBNe, Int.reduceBEq]
    match l, h2 with
    | [a], _ => simp [ownerOf, he, hl]

end Go.Proofs.Ytkjkbpgdpnapfaa

/-
  THE ABSTRACT LAYER, 21: a range over a function. The frame's variables in memory go with the loop's record to the iterator, which hands them on to each round. Over any program.
-/
namespace Go.Abs
open Go Go.RowKit
open Enc (enc)

mutual
theorem only_mono {p q : Nat → Bool} (h : ∀ n, p n = true → q n = true) : ∀ x : AV, x.only p = true → x.only q = true
  | .agg fs, hx | .tuple fs, hx => by simp only [AV.only] at *; exact onlys_mono h fs hx
  | .slice _ es, hx => by simp only [AV.only] at *; exact onlys_mono h es hx
  | .ref x, hx => by simp only [AV.only] at *; exact only_mono h x hx
  | .func _ caps, hx => by simp only [AV.only] at *; exact onlys_mono h caps hx
  | .iface _ v, hx => by simp only [AV.only] at *; exact only_mono h v hx
  | .ptr _ _, hx | .own _ _, hx | .view _ _ _ _ _, hx => by simp only [AV.only] at *; exact h _ hx
  | .bool _, _ | .int _ _, _ | .str _, _ | .nilp, _ | .nilf, _ | .nili, _ | .raw _, _ | .nils _, _ | .c0 _, _ | .undef, _ | .top, _ => by simp [AV.only]
theorem onlys_mono {p q : Nat → Bool} (h : ∀ n, p n = true → q n = true) : ∀ xs : List AV, AV.onlys p xs = true → AV.onlys q xs = true
  | [], _ => rfl
  | x :: xs, hx => by
    simp only [AV.onlys, Bool.and_eq_true] at *
    exact ⟨only_mono h x hx.1, onlys_mono h xs hx.2⟩
end
theorem AO.only_mono {p q : Nat → Bool} (h : ∀ n, p n = true → q n = true) (x : AO) (hx : x.only p = true) : x.only q = true := by
  cases x with
  | box y => simp only [AO.only] at *; exact Abs.only_mono h y hx
  | row T sz es => simp only [AO.only] at *; exact onlys_mono h es hx
  | opq o => rfl

theorem isVal_closed {x : AV} (h : x.closed = true) : x.isVal = true := by
  cases x <;> first | rfl | simp [AV.closed] at h
theorem argsOk_closed {bx : Bool} {A0 : AState} {ρ : List (Nat × Nat)} {os : List (Nat × AO)} : ∀ xs : List AV, AV.closeds xs = true → argsOk bx A0 ρ os xs xs
  | [], _ => trivial
  | x :: xs, h => by
    simp only [AV.closeds, Bool.and_eq_true] at h
    exact ⟨.inl ⟨(ren_closed _ x h.1).symm, only_closed _ x h.1, isVal_closed h.1⟩, argsOk_closed xs h.2⟩

/-- The objects' names and kinds are as at the beginning; they speak of themselves alone. -/
structure GoodO (os os' : List (Nat × AO)) : Prop where
  same : ∀ m, isIn os' m = isIn os m
  ok : ∀ m x, lookO os' m = some x → x.only (isIn os') = true ∧ x.fix = true
  great : ∀ m, isIn os m = true → 1000000 ≤ m

/-- **An iterator**: it yields these 'N' lists of values, one after the other, as long as it is told to go on. -/
def Iter (P : Program) (g : FuncId) (caps : List AV) (N : Nat) (item : Nat → List AV) : Prop :=
  ∀ (Y : Value → List AV → List (Nat × AO) → Post → Prop) (v : Value) (I : Nat → List (Nat × AO) → Prop) (Ix : List (Nat × AO) → Prop) (os : List (Nat × AO)), v.oneCell' = true →
    (∀ k os' post, k < N → I k os' → (∀ r os2, (r = .bool true ∧ I (k + 1) os2) ∨ (r = .bool false ∧ Ix os2) → post r os2) → Y v (item k) os' post) →
    (∀ k os', I k os' → GoodO os os') → (∀ os', Ix os' → GoodO os os') → I 0 os → CtrY P g Y (.raw v :: caps) os (fun r os' => r = .tuple [] ∧ (I N os' ∨ Ix os'))

/-- The loop's record goes with the objects. -/
def recd (o : Obj) (os : List (Nat × AO)) : List (Nat × AO) := (1999999, .opq o) :: os
theorem isIn_recd (o : Obj) (os : List (Nat × AO)) (m : Nat) : isIn (recd o os) m = (decide (m = 1999999) || isIn os m) := by
  simp only [recd, isIn, lookO]
  by_cases h : m = 1999999 <;> simp [h]
theorem lookO_recd (o : Obj) (os : List (Nat × AO)) (m : Nat) : lookO (recd o os) m = if m = 1999999 then some (.opq o) else lookO os m := rfl

theorem GoodO.recd {os os' : List (Nat × AO)} (h : GoodO os os') (o o' : Obj) : GoodO (recd o os) (recd o' os') := by
  refine ⟨fun m => by rw [isIn_recd, isIn_recd, h.same], fun m x hx => ?_, fun m hm => ?_⟩
  · rw [lookO_recd] at hx
    split at hx
    · cases hx; exact ⟨rfl, rfl⟩
    · obtain ⟨h1, h2⟩ := h.ok m x hx
      exact ⟨x.only_mono (fun n hn => by rw [isIn_recd, hn]; simp) h1, h2⟩
  · rw [isIn_recd] at hm
    simp only [Bool.or_eq_true, decide_eq_true_eq] at hm
    rcases hm with rfl | hm
    · decide
    · exact h.great m hm

/-- Yield's values are put into the slots. -/
def putsT : List Nat → List AV → List (Nat × AV) → List (Nat × AV)
  | p :: ps, v :: vs, ts => putsT ps vs ((p, v) :: ts)
  | _, _, ts => ts

/-- These slots, told by other names. -/
def slotsOk (ρ : List (Nat × Nat)) (p : Nat → Bool) (ts : List (Nat × AV)) : List (Nat × AV) → Prop
  | [] => True
  | (k, v) :: r => look ts k = v.ren (rnm ρ) ∧ v.only p = true ∧ slotsOk ρ p ts r
theorem slotsOk_get {ρ : List (Nat × Nat)} {p : Nat → Bool} {ts : List (Nat × AV)} : ∀ {tsR : List (Nat × AV)}, slotsOk ρ p ts tsR → ∀ k, look tsR k = .top ∨ (look ts k = (look tsR k).ren (rnm ρ) ∧ (look tsR k).only p = true)
  | [], _, k => .inl rfl
  | (j, v) :: r, h, k => by
    simp only [slotsOk] at h
    simp only [look]
    split
    · rename_i hk; subst hk; exact .inr ⟨h.1, h.2.1⟩
    · exact slotsOk_get h.2.2 k

section
variable {c : Ctx} {a : Act} {w : World} {D : Dom} {E : Env}

/-- The record is written. -/
theorem SimW.setOpq {A : AState} (h : SimW c A a w D E) {n b : Nat} {o o' : Obj} (hn : A.o n = some (.opq o)) (hE : E n = some (.op b)) (ho : isRec o' = true) : SimW c (A.setO n (.opq o')) a (w.putObj b o') D E := by
  have hob := h.obj n
  rw [hn] at hob
  obtain ⟨b', k1, k2, k3, k4, k5⟩ := hob
  rw [hE] at k1
  cases k1
  have hnc : o.isCells = false := by cases o <;> first | rfl | cases k4
  have hlt : b < w.heap.size := heap_lt k3
  have hl : Later w D E (w.putObj b o') D E := ⟨fun _ _ h => h, fun b1 o1 v _ hv => cell_putObj k3 hnc hv, fun _ _ _ h => h, fun _ blk l h => ⟨blk, l, h, Nat.le_refl _, fun _ => rfl⟩⟩
  refine ⟨h.sz, h.defs.mono fun B _ hB => (World.putObj_heap_other (fun e => by rw [e, k3] at hB; cases hB; cases k4)).trans hB, fun t => rv.later hl (h.tm t), h.unch.trans ⟨rfl, rfl, rfl, by simp, fun k hk => World.putObj_heap_other (fun e => hk (e ▸ k2))⟩, h.dom,
    fun b1 o1 hd => by have := h.live b1 o1 hd; simpa using this, fun m => ?_, h.sep, h.hist, h.nam, h.up, h.yok⟩
  simp only [AState.setO]
  by_cases hm : m = n
  · subst hm
    simp only [if_true, objOk]
    exact ⟨b, hE, k2, World.putObj_heap_same hlt, ho, k5⟩
  · simp only [if_neg hm]
    exact (h.obj m).later hl rfl fun e b1 he hb => ⟨World.putObj_heap_other (fun e1 => hm (h.sep m n e _ b1 he hE hb (by rw [e1]; rfl))), fun _ ho => ho⟩

/-- The record is spoken of no more. -/
theorem SimW.dropOpq {A : AState} (h : SimW c A a w D E) {n b : Nat} (hE : E n = some (.op b)) : SimW c ⟨A.t, fun m => if m = n then none else A.o m⟩ a w D (fun m => if m = n then none else E m) := by
  have hne : ∀ {m : Nat} {e : Ent}, E m = some e → (∀ b, e ≠ .op b) → m ≠ n := fun he h2 e' => by
    subst e'; rw [hE] at he; cases he; exact h2 _ rfl
  have hl : Later w D E w D (fun m => if m = n then none else E m) := by
    refine ⟨fun _ _ h => h, fun _ _ _ _ h => h, fun m b sh he => ?_, fun m blk l he => ⟨blk, l, ?_, Nat.le_refl _, fun _ => rfl⟩⟩
    · simp only [if_neg (hne he (fun b => by simp))]; exact he
    · simp only [if_neg (hne he (fun b => by simp))]; exact he
  refine ⟨h.sz, h.defs, fun t => rv.later hl (h.tm t), h.unch, h.dom, h.live, fun m => ?_, fun m m' e e' b h1 h2 h3 h4 => ?_, fun m e hm hfx => ?_, h.nam, h.up, h.yok⟩
  · by_cases hm : m = n
    · simp only [hm, if_true, objOk]
    · simp only [if_neg hm]
      exact (h.obj m).later hl (by simp only [if_neg hm]) fun _ _ _ _ => ⟨rfl, fun _ ho => ho⟩
  · split at h1
    · cases h1
    · split at h2
      · cases h2
      · exact h.sep m m' e e' b h1 h2 h3 h4
  · by_cases hmn : m = n
    · left; simp only [hmn, if_true]
    · simp only [if_neg hmn]; exact h.hist m e hm hfx

/-- The statement is entered: its record is laid. -/
theorem SimW.enter {ts : List (Nat × AV)} {os0 : List (Nat × AO)} (h : SimW c (mkA ts os0) a w D E) (hfree : lookO os0 999999 = none) (hE0 : c.E0 999999 = none) {o : Obj} (ho : isRec o = true) :
    ∃ E1, SimW c (mkA ts ((999999, .opq o) :: os0)) { a with defers := { target := .collected w.heap.size, args := #[] } :: a.defers } ((w.alloc (.deferred (some []))).alloc o) D E1 ∧ E1 999999 = some (.op (w.heap.size + 1)) ∧ ∀ xs vs, rvs w D E xs vs → rvs ((w.alloc (.deferred (some []))).alloc o) D E1 xs vs := by
  have hb : Below w.heap.size w ((w.alloc (.deferred (some []))).alloc o) := ((Below.refl _ w).alloc (Nat.le_refl _) _).alloc (by simp) _
  have h1 := h.grow (D' := D) hb (fun _ _ h => h) (fun _ _ h _ => h) (fun b o' hd => by have := h.live b o' hd; simp; omega)
  obtain ⟨W, hW⟩ : ∃ W, W = (w.alloc (.deferred (some []))).alloc o := ⟨_, rfl⟩
  have hL : W.heap[w.heap.size + 1]? = some o := by
    rw [hW]; have := World.alloc_heap_new (w.alloc (.deferred (some []))) o; rwa [World.size_alloc] at this
  have hK : W.heap[w.heap.size]? = some (.deferred (some [])) := by
    rw [hW]; exact (Below.heap_alloc _ _ _ (by simp)).trans (World.alloc_heap_new w _)
  rw [← hW] at h1 hb ⊢
  have hEn : E 999999 = none := by have := h.obj 999999; simp only [mkA, hfree] at this; exact this
  have hl : Later W D E W D (fun m => if m = 999999 then some (.op (w.heap.size + 1)) else E m) := by
    refine ⟨fun _ _ h => h, fun _ _ _ _ h => h, fun m b sh he => ?_, fun m blk l he => ⟨blk, l, ?_, Nat.le_refl _, fun _ => rfl⟩⟩
    · have : m ≠ 999999 := fun e => by rw [e, hEn] at he; cases he
      simp only [if_neg this]; exact he
    · have : m ≠ 999999 := fun e => by rw [e, hEn] at he; cases he
      simp only [if_neg this]; exact he
  have hsz : c.w0.heap.size ≤ w.heap.size := h.unch.size
  have nb : ∀ {m : Nat} {e : Ent} {b : Nat}, E m = some e → e.blk = some b → b < w.heap.size := fun he hb' => h.blk_lt he hb'
  refine ⟨fun m => if m = 999999 then some (.op (w.heap.size + 1)) else E m, ⟨h1.sz, ?_, fun t => rv.later hl (h1.tm t), h1.unch, h1.dom, h1.live, fun m => ?_, fun m m' e e' b g1 g2 g3 g4 => ?_, fun m e hm hfx => ?_, h1.nam, h1.up, h1.yok⟩, by simp, fun xs vs hx => rvs.later hl xs vs (rvs.later (Later.grow hb fun _ _ h => h) xs vs hx)⟩
  · obtain ⟨Bs, k1, k2, k3⟩ := h1.defs
    refine ⟨w.heap.size :: Bs, by simp only [List.map_cons]; rw [← k1], List.nodup_cons.2 ⟨fun hin => ?_, k2⟩, fun B hB => ?_⟩
    · obtain ⟨Bs', j1, _, j3⟩ := h.defs
      have e1 : Bs = Bs' := by
        have : Bs.map (fun B => ({ target := .collected B, args := #[] } : Deferred)) = Bs'.map (fun B => { target := .collected B, args := #[] }) := by rw [← k1, ← j1]
        exact (List.map_inj_right (fun x y hxy => by simpa using hxy)).1 this
      rw [e1] at hin
      have := heap_lt (j3 _ hin).2
      omega
    · rcases List.mem_cons.1 hB with rfl | hB
      · exact ⟨hsz, hK⟩
      · exact k3 B hB
  · simp only [mkA, lookO]
    by_cases hm : m = 999999
    · subst hm
      simp only [if_true, objOk]
      exact ⟨_, rfl, .inl (by omega), hL, ho, fun o' hd => by have := h.live _ o' hd; omega⟩
    · simp only [if_neg hm]
      exact (h1.obj m).later hl (by simp only [if_neg hm]) fun _ _ _ _ => ⟨rfl, fun _ ho => ho⟩
  · by_cases hm : m = 999999 <;> by_cases hm' : m' = 999999
    · rw [hm, hm']
    · simp only [if_pos hm, Option.some.injEq] at g1
      simp only [if_neg hm'] at g2
      subst g1
      simp only [Ent.blk, Option.some.injEq] at g3
      have := nb g2 g4; omega
    · simp only [if_neg hm] at g1
      simp only [if_pos hm', Option.some.injEq] at g2
      subst g2
      simp only [Ent.blk, Option.some.injEq] at g4
      have := nb g1 g3; omega
    · simp only [if_neg hm] at g1; simp only [if_neg hm'] at g2; exact h.sep m m' e e' b g1 g2 g3 g4
  · have hmn : m ≠ 999999 := fun e => by rw [e, hE0] at hm; cases hm
    simp only [if_neg hmn]
    exact h.hist m e hm hfx

theorem objOk_some {M : Nat → Prop} {n : Nat} {x : AO} (h : objOk M w D E n (some x)) : E n ≠ none := by
  cases x with
  | box x => obtain ⟨b, cs, T, h1, _⟩ := h; rw [h1]; simp
  | row T sz es => obtain ⟨blk, h1, _⟩ := h; rw [h1]; simp
  | opq o => obtain ⟨b, h1, _⟩ := h; rw [h1]; simp

theorem objOk.mine {M M' : Nat → Prop} {n : Nat} {x : Option AO} (h : objOk M w D E n x) (hM : ∀ e b, E n = some e → e.blk = some b → M' b) : objOk M' w D E n x := by
  unfold objOk at *
  split
  · exact h
  · obtain ⟨b, cs, T, h1, _, h3⟩ := h
    exact ⟨b, cs, T, h1, hM _ b h1 rfl, h3⟩
  · obtain ⟨blk, h1, h2, h3⟩ := h
    refine ⟨blk, h1, h2, ?_⟩
    split
    · exact h3
    · obtain ⟨cs, pre, rest, _, h4⟩ := h3
      exact ⟨cs, pre, rest, hM _ _ h1 rfl, h4⟩
  · obtain ⟨b, h1, _, h3⟩ := h
    exact ⟨b, h1, hM _ b h1 rfl, h3⟩

theorem SimW.puts {os : List (Nat × AO)} : ∀ (ps : List Nat) (vs : List Value) (xs : List AV) (ts : List (Nat × AV)) (a : Act), SimW c (mkA ts os) a w D E → (∀ p ∈ ps, p < c.n) → rvs w D E xs vs → ps.length = vs.length →
    SimW c (mkA (putsT ps xs ts) os) { a with tmps := (ps.zip vs).foldl (fun t q => t.setIfInBounds q.1 q.2) a.tmps } w D E
  | [], [], xs, ts, a, h, _, hv, _ => by
    cases xs with
    | nil => exact h
    | cons x xs => simp [rvs] at hv
  | [], _ :: _, _, _, _, _, _, _, hl => by simp at hl
  | _ :: _, [], _, _, _, _, _, _, hl => by simp at hl
  | p :: ps, v :: vs, xs, ts, a, h, hp, hv, hl => by
    cases xs with
    | nil => simp [rvs] at hv
    | cons x xs =>
      simp only [rvs] at hv
      obtain ⟨v', rest, cs, e, h1, h2, h3⟩ := hv
      simp only [List.cons.injEq] at e
      obtain ⟨rfl, rfl⟩ := e
      have h4 := h.put (hp p (by simp)) (mk_val h1 h2)
      rw [mkA_put] at h4
      have := SimW.puts ps vs xs ((p, x) :: ts) (a.put (some p) v) h4 (fun q hq => hp q (by simp [hq])) h3 (by simpa using hl)
      exact this

end
end Go.Abs

/-
  THE ABSTRACT LAYER, 22: the rule of a range over a function, at an outermost loop. Over any program.
-/
namespace Go.Abs
open Go Go.RowKit
open Enc (enc)

/-- How a round may leave the loop: by a return, or by an exit of an outer block. -/
def jumpOf : Option Nat → Code
  | none => .ret
  | some id => .exit id
def exitOf : Option Nat → Exit
  | none => .ret
  | some id => .exit id

/-- What comes back at a round's end. -/
def Backs (o : Obj) (A : AState) (os : List (Nat × AO)) : Prop := ∀ n x, lookO (recd o os) n = some x → A.o n = some x ∧ x.only (isIn (recd o os)) = true ∧ x.fix = true

/-- The end of a round. -/
def roundQ (o : Obj) (In : List (Nat × AO) → Prop) (Ix : Option Nat → List (Nat × AO) → Prop) : Exit → AState → Prop
  | .normal, A => ∃ os, Backs o A os ∧ In os
  | .ret, A => ∃ os, Backs o A os ∧ Ix none os
  | .exit id, A => ∃ os, Backs o A os ∧ Ix (some id) os
  | _, _ => False

/-- A round: the loop variables are set, the record is busy, the body is walked. -/
def Round (P : Program) (nn : Nat) (x y : AC) (ps : List Nat) (tsR : List (Nat × AV)) (N : Nat) (item : Nat → List AV) (I : Nat → List (Nat × AO) → Prop) (Ix : Option Nat → List (Nat × AO) → Prop) : Prop :=
  ∀ k osb, k < N → I k osb → ∀ (w : World) (D : Dom) (E : Env) (l : Nat) (o1 o2 : Obj),
    AW ⟨P, w, D, nn, ownE E, E, noY, some l⟩ x (thenQ (fun B => B.o 1999999 = some (.opq o1) ∧ AW ⟨P, w, D, nn, ownE E, E, noY, some l⟩ y (roundQ o2 (I (k + 1)) Ix) (B.setO 1999999 (.opq o2))) (fun _ _ => False)) (mkA (putsT ps (item k) tsR) (recd o1 osb))

section
variable {c : Ctx} {Q : Exit → AState → Prop}

theorem held_backs {o : Obj} {A : AState} {os : List (Nat × AO)} (h : Backs o A os) (o' : Obj) : ∀ n x, lookO (recd o' os) n = some x → (A.setO 1999999 (.opq o')).o n = some x ∧ x.only (isIn (recd o' os)) = true ∧ x.fix = true := fun n x hx => by
  have e : isIn (recd o' os) = isIn (recd o os) := by funext m; rw [isIn_recd, isIn_recd]
  rw [e]
  by_cases hn : n = 1999999
  · subst hn
    rw [lookO_recd, if_pos rfl, Option.some.injEq] at hx
    subst hx
    exact ⟨by simp [AState.setO], rfl, rfl⟩
  · rw [lookO_recd, if_neg hn] at hx
    obtain ⟨h1, h2⟩ := h n x (by rw [lookO_recd, if_neg hn]; exact hx)
    exact ⟨by simp only [AState.setO, if_neg hn]; exact h1, h2⟩

theorem AW.rfun {f : AOpd} {ps : List Nat} {x y : AC} {ts tsR : List (Nat × AV)} {os0 osb0 : List (Nat × AO)} {ρ : List (Nat × Nat)} {g : FuncId} {caps : List AV} {N : Nat} {item : Nat → List AV}
    (I : Nat → List (Nat × AO) → Prop) (Ix : Option Nat → List (Nat × AO) → Prop) (hr : c.rnd = none) (hn6 : c.n ≤ 1000000)
    (hf : ev (mkA ts os0) f = .func g caps) (hcl : AV.closeds caps = true) (hcb : callable c.P g = true) (hit : Iter c.P g caps N item) (hlen : ∀ k, (item k).length = ps.length)
    (hfree : lookO os0 999999 = none) (h19 : isIn osb0 1999999 = false) (hρ : rnm ρ 1999999 = 999999)
    (hgv : ∀ o, Gvn ρ (recd o osb0) ((999999, .opq o) :: os0)) (hts : slotsOk ρ (isIn osb0) ts tsR)
    (hI : ∀ k os, I k os → GoodO osb0 os) (hIx : ∀ e os, Ix e os → GoodO osb0 os) (h0 : I 0 osb0)
    (hround : Round c.P c.n x y ps tsR N item I Ix)
    (hdone : ∀ os, I N os → Q .normal (mkA ts (renO ρ os ++ os0))) (hexit : ∀ e os, Ix e os → Q (exitOf e) (mkA ts (renO ρ os ++ os0))) :
    AW c (.rfun f ps x y) Q (mkA ts os0) := by
  intro code hc a w hs
  cases code <;> simp only [cCode] at hc <;> try (first | (cases hc; done) | ((repeat' split at hc) <;> cases hc; done))
  rename_i cf cps cx cy
  split at hc
  case h_2 => cases hc
  rename_i f' x' y' hcf hcx hcy
  split at hc
  case isFalse => cases hc
  rename_i hpn
  simp only [Option.some.injEq, AC.rfun.injEq] at hc
  obtain ⟨rfl, rfl, rfl, rfl⟩ := hc
  obtain ⟨D, E, hs⟩ := hs
  have hF : c.F = Fence.wide := by unfold Ctx.F; rw [hr]
  have hE0 : c.E0 999999 = none := hs.fresh (.inr (by decide))
  have hval : ∃ vs : List Value, a.eval cf = .func (.func g) #[] vs.toArray ∧ rvs w D E caps vs := by
    have hv := ev_ok hs hcf
    rw [hf] at hv
    obtain ⟨cs, q1, q2⟩ := hv
    simp only [rc] at q2
    obtain ⟨vs, q3, q4⟩ := q2
    exact ⟨vs, by simpa [isPack, AV.isAgg, q3] using q1.symm, q4⟩
  obtain ⟨vs, hval, hvs⟩ := hval
  rw [hF]
  refine wpIn_rangeFunc fun fn hfn => ?_
  obtain ⟨rec, hrec⟩ : ∃ rec : LoopState → Option Code → Loop, rec = fun st pe => { state := st, pending := pe, fn, tmps := a.tmps, params := cps, assign := cx, body := cy, defers := w.heap.size } := ⟨_, rfl⟩
  obtain ⟨E1, hs1, hE1, hup⟩ := hs.enter hfree hE0 (o := .loop (rec .ready none)) rfl
  obtain ⟨W1, hW1⟩ : ∃ W1, (w.alloc (.deferred (some []))).alloc (.loop (rec .ready none)) = W1 := ⟨_, rfl⟩
  rw [hW1] at hs1 hup
  obtain ⟨l, hl⟩ : ∃ l, l = w.heap.size + 1 := ⟨_, rfl⟩
  rw [← hl] at hE1
  obtain ⟨yv, hyv⟩ : ∃ yv : Value, yv = .func (.yield l) #[] #[] := ⟨_, rfl⟩
  obtain ⟨a1, ha1⟩ : ∃ a1 : Act, a1 = { a with defers := { target := .collected w.heap.size, args := #[] } :: a.defers } := ⟨_, rfl⟩
  rw [← ha1] at hs1
  refine ⟨l, [{ target := .collected w.heap.size, args := #[] }], W1, { target := .fn (.func g) vs.toArray, args := #[yv] }, W1, g, #[yv] ++ vs.toArray, W1, ?_, ?_, ?_, ?_, fun _ => by decide, ?_⟩
  · rw [← hW1, hrec, hl]
    exact run_enterLoop_outer _ _ _ _ _
  · simp only [resolve, hval, hyv]
    simp [go_sem]
  · intro f' _; trivial
  · simp only [invoke, run_callFunc hcb]
  · -- the iterator's own bargain
    have hG0 := hI 0 osb0 h0
    obtain ⟨I', hI'⟩ : ∃ I' : Nat → List (Nat × AO) → Prop, I' = fun k os => ∃ osb, os = recd (.loop (rec .ready none)) osb ∧ I k osb := ⟨_, rfl⟩
    obtain ⟨Ix', hIx'⟩ : ∃ Ix' : List (Nat × AO) → Prop, Ix' = fun os => ∃ e osb, os = recd (.loop (rec .done (some (jumpOf e)))) osb ∧ Ix e osb := ⟨_, rfl⟩
    obtain ⟨os1, hos1⟩ : ∃ os1, os1 = recd (.loop (rec .ready none)) osb0 := ⟨_, rfl⟩
    obtain ⟨Y, hY⟩ : ∃ Y : Value → List AV → List (Nat × AO) → Post → Prop, Y = fun v args os post => v = yv ∧ ∃ k, args = item k ∧ k < N ∧ I' k os ∧ ∀ r os2, (r = .bool true ∧ I' (k + 1) os2) ∨ (r = .bool false ∧ Ix' os2) → post r os2 := ⟨_, rfl⟩
    have good : ∀ k os', I' k os' → GoodO os1 os' := fun k os' h => by
      rw [hI'] at h; obtain ⟨osb, rfl, h⟩ := h
      rw [hos1]; exact (hI k osb h).recd _ _
    have goodx : ∀ os', Ix' os' → GoodO os1 os' := fun os' h => by
      rw [hIx'] at h; obtain ⟨e, osb, rfl, h⟩ := h
      rw [hos1]; exact (hIx e osb h).recd _ _
    have hctr := hit Y yv I' Ix' os1 (by rw [hyv]; rfl) (fun k os' post hk h1 h2 => by rw [hY]; exact ⟨rfl, k, rfl, hk, h1, h2⟩) good goodx (by rw [hI']; exact ⟨osb0, hos1, h0⟩)
    have hgv1 : Gvn ρ os1 ((999999, .opq (.loop (rec .ready none))) :: os0) := by rw [hos1]; exact hgv _
    obtain ⟨A0, hA0⟩ : ∃ A0 : AState, A0 = mkA ts ((999999, .opq (.loop (rec .ready none))) :: os0) := ⟨_, rfl⟩
    have hand : Hand (Calls c.P g) (fun w D E => ∀ n, YOk ⟨c.P, w, D, n, ownE E, E, Y, none⟩) (.raw yv :: caps) os1 (fun r os' => r = .tuple [] ∧ (I' N os' ∨ Ix' os')) := fun w D E vs hy hlive hheld hv => by
      refine (hctr.2 w D E vs hy hlive hheld hv).mono fun e w' ⟨v, he, D', E', r, os', q⟩ => ⟨v, D', E', r, os', he, q⟩
    have hshare := hs1.shareAll
    obtain ⟨Dh, hDh⟩ : ∃ Dh, Dh = rowsDom (mkA ts ((999999, .opq (.loop (rec .ready none))) :: os0)) D E1 := ⟨_, rfl⟩
    rw [← hDh] at hshare
    have hsh := hshare.1
    obtain ⟨Eh, hEh⟩ : ∃ Eh, Eh = hE ρ os1 E1 := ⟨_, rfl⟩
    have isrec : isIn os1 1999999 = true := by rw [hos1, isIn_recd]; simp
    have hEl : Eh 1999999 = some (.op l) := by rw [hEh]; simp only [hE, isrec, if_true, hρ]; exact hE1
    have EhIn : ∀ n e, Eh n = some e → isIn os1 n = true := fun n e h => by
      rw [hEh] at h; simp only [hE] at h; split at h
      · assumption
      · cases h
    have hyok : ∀ n, YOk ⟨c.P, W1, Dh, n, ownE Eh, Eh, Y, none⟩ := by
      intro n v' args os' post' hYv w2 D2 E2 vs2 hsince hlive hheld hrvs
      rw [hY] at hYv
      obtain ⟨rfl, k, rfl, hkN, hIk, hpost⟩ := hYv
      have hIk0 := hIk
      rw [hI'] at hIk
      obtain ⟨osb, rfl, hIk⟩ := hIk
      have gk := good k _ hIk0
      have gkb := hI k osb hIk
      have in2 : ∀ m, isIn os1 m = true → E2 m ≠ none := fun m hm => by
        rw [← gk.same m] at hm
        cases hx : lookO (recd (.loop (rec .ready none)) osb) m with
        | none => simp [isIn, hx] at hm
        | some x => have := hheld.obj m; rw [hx] at this; exact objOk_some this
      have same2 : ∀ m e, Eh m = some e → e.fix = true → E2 m = some e := fun m e he hfx => by
        rcases hsince.hist m e he hfx with h | h
        · exact absurd h (in2 m (EhIn m e he))
        · exact h
      have hEl2 : E2 1999999 = some (.op l) := same2 _ _ hEl rfl
      have hob := hheld.obj 1999999
      rw [lookO_recd, if_pos rfl] at hob
      obtain ⟨b, j1, _, j3, _, _⟩ := hob
      rw [hEl2] at j1
      cases j1
      have hsz : vs2.toArray.size = cps.size := by have := rvs_length hrvs; rw [hlen] at this; simpa using this
      have hyr := run_yield (P := c.P) (args := vs2.toArray) j3 (by rw [hrec]; exact hsz)
      rw [hrec] at hyr
      refine ⟨l, hyv, fn, _, cx, cy, hyr, roundIn_of_wpIn trivial ?_⟩
      clear hyr
      -- the round's own frame
      obtain ⟨cr, hcr⟩ : ∃ cr : Ctx, cr = ⟨c.P, w2, D2, c.n, ownE E2, E2, noY, some l⟩ := ⟨_, rfl⟩
      have hFr : cr.F = Fence.wide.inRound l := by rw [hcr]; rfl
      have fixEh : ∀ m e, Eh m = some e → e.fix = true := fun m e he => by
        obtain ⟨x, e', b, _, q2, _, _, q5, _⟩ := hsh.given hgv1 (EhIn m e he)
        rw [hEh] at he; rw [he] at q2; cases q2; exact q5
      have hlat : Later W1 Dh Eh w2 D2 E2 := by
        refine ⟨hsince.up, fun b o v hd hv => ?_, fun m b sh he => same2 m _ he rfl, fun m blk l he => ?_⟩
        · have hblk : w2.heap[b]? = W1.heap[b]? := hsince.unch.block b fun hm => by
            rcases hm with hm | hm
            · exact absurd (hsh.live b o hd) (Nat.not_lt.2 hm)
            · simp only at hm
              rw [hEh] at hm
              obtain ⟨m, e, _, _, _, _, _, h5, _⟩ := hsh.given_own hgv1 hm
              exact h5 o hd
          rw [World.cell?_of_block hblk]; exact hv
        · exact absurd (fixEh m _ he) (by simp [Ent.fix])
      have hslots : slotsOk ρ (isIn os1) ts tsR := by
        have : ∀ tsR : List (Nat × AV), slotsOk ρ (isIn osb0) ts tsR → slotsOk ρ (isIn os1) ts tsR := by
          intro tsR
          induction tsR with
          | nil => exact fun h => h
          | cons q r ih =>
            intro h
            obtain ⟨h1, h2, h3⟩ := h
            exact ⟨h1, only_mono (fun n hn => by rw [hos1, isIn_recd, hn]; simp) _ h2, ih h3⟩
        exact this tsR hts
      have hsr : SimW cr (mkA tsR (recd (.loop (rec .ready none)) osb)) { tmps := a.tmps, defers := [] } w2 D2 E2 := by
        rw [hcr]
        refine ⟨hs.sz, ⟨[], rfl, .nil, fun _ h => by simp at h⟩, fun t => ?_, Kept.refl _ _, fun _ _ h _ => h, hlive, fun m => (hheld.obj m).mine fun e b he hb => .inr ⟨m, e, he, hb⟩, hheld.sep, fun _ _ h _ => .inr h, fun m hm => ?_, fun _ _ h => h, fun _ _ _ _ h => h.elim⟩
        · rcases slotsOk_get hslots t with h | ⟨h1, h2⟩
          · simp only [mkA]; rw [h]; simp [rv]
          · have h3 := hsh.tm t
            rw [ha1] at h3
            simp only [mkA] at h3 ⊢
            rw [h1] at h3
            have h4 := (rv.ren (w := W1) (D := Dh) (p := isIn os1) (ρ := rnm ρ) (E := Eh) (E' := E1) (fun n hn => by rw [hEh]; simp only [hE, hn, if_true]) h2).1 h3
            exact rv.later hlat h4
        · have hmi : isIn os1 m = true := by
            rw [← gk.same m]
            have := hheld.obj m
            cases hx : lookO (recd (.loop (rec .ready none)) osb) m with
            | none => rw [hx] at this; exact absurd this hm
            | some x => simp [isIn, hx]
          have := gk.great m hmi
          exact ⟨Nat.le_trans hn6 this, this⟩
      have hsp := SimW.puts cps.toList vs2 (item k) tsR _ hsr (fun p hp => by rw [hcr]; have := List.all_eq_true.1 hpn p hp; simpa using this) hrvs (by have := hsz; simpa using this.symm)
      have htm : (cps.zip vs2.toArray).foldl (fun t (q : Tmp × Value) => t.setIfInBounds q.1 q.2) a.tmps = (cps.toList.zip vs2).foldl (fun t q => t.setIfInBounds q.1 q.2) a.tmps := by
        rw [← Array.foldl_toList]; simp
      have hx := hround k osb hkN hIk w2 D2 E2 l (.loop (rec .ready none)) (.loop { rec .ready none with state := .busy }) 
      rw [← hcr] at hx
      have hx1 := hx cx (by rw [hcr]; exact hcx) _ w2 ⟨D2, E2, hsp⟩
      rw [hFr] at hx1
      simp only [← htm] at hx1
      rw [hcr] at hx1
      refine wpIn_mono hx1 ?_
      rintro e ax wx ⟨B, hq, hsx⟩
      rw [← hcr] at hq hsx
      cases e <;> simp only [thenQ] at hq <;> try exact hq.elim
      simp only [Exit.then]
      obtain ⟨hB1, hB2⟩ := hq
      obtain ⟨Dx, Ex, hsx⟩ := hsx
      have hElx : Ex 1999999 = some (.op l) := by
        have ho := hsx.obj 1999999
        rw [hB1] at ho
        rcases hsx.hist 1999999 _ (by rw [hcr]; exact hEl2) rfl with h | h
        · exact absurd h (objOk_some ho)
        · exact h
      have hLx : wx.heap[l]? = some (.loop (rec .ready none)) := by
        have ho := hsx.obj 1999999
        rw [hB1] at ho
        obtain ⟨b, k1, _, k3, _⟩ := ho
        rw [hElx] at k1; cases k1; exact k3
      refine ⟨_, run_beginRound hLx (by rw [hrec]), ?_⟩
      have hsb := hsx.setOpq (o' := .loop { rec .ready none with state := .busy }) hB1 hElx rfl
      have hy1 := hB2 cy (by rw [hcr]; exact hcy) _ _ ⟨Dx, Ex, hsb⟩
      rw [hFr] at hy1
      rw [hcr] at hy1
      refine wpIn_mono hy1 ?_
      rintro e a3 w3 ⟨A3, hq3, D3, E3, hs3⟩
      rw [← hcr] at hs3
      -- the end of the round
      have fin : ∀ (os : List (Nat × AO)) (jump : Option Code), Backs (.loop { rec .ready none with state := .busy }) A3 os → (post' (.bool jump.isNone) (recd (.loop (rec (if jump.isNone then .ready else .done) jump)) os)) →
          ∃ v w', (Instr.endRound l jump).run c.P w3 = .ok v w' ∧ (fun e w' => ∃ v D' E' r os', e = Ending.returned v ∧ post' r os' ∧ rv w' D' E' r v ∧ HeldO (fun b => w2.heap.size ≤ b ∨ ownE E2 b) w' D' E' (lookO os') ∧
            Kept (fun b => w2.heap.size ≤ b ∨ ownE E2 b) w2 w' ∧ (∀ b o, D2 b o → D' b o) ∧ (∀ b o, D' b o → b < w'.heap.size) ∧ (∀ b o, D' b o → b < w2.heap.size → ¬ ownE E2 b → D2 b o) ∧
            ∀ n e, E2 n = some e → e.fix = true → isIn os' n = true → E' n = some e) (.returned v) w' := fun os jump hbk hp => by
        have hA3 : A3.o 1999999 = some (.opq (.loop { rec .ready none with state := .busy })) := (hbk 1999999 _ (by rw [lookO_recd, if_pos rfl])).1
        have hEl3 : E3 1999999 = some (.op l) := by
          have ho := hs3.obj 1999999
          rw [hA3] at ho
          rcases hs3.hist 1999999 _ (by rw [hcr]; exact hEl2) rfl with h | h
          · exact absurd h (objOk_some ho)
          · exact h
        have hL3 : w3.heap[l]? = some (.loop { rec .ready none with state := .busy }) := by
          have ho := hs3.obj 1999999
          rw [hA3] at ho
          obtain ⟨b, k1, _, k3, _⟩ := ho
          rw [hEl3] at k1; cases k1; exact k3
        have hend := run_endRound (P := c.P) jump hL3
        have erec : ({ rec .ready none with state := if jump.isNone then LoopState.ready else .done, pending := jump } : Loop) = rec (if jump.isNone then .ready else .done) jump := by rw [hrec]
        have hend' : (Instr.endRound l jump).run c.P w3 = .ok (.bool jump.isNone) (w3.putObj l (.loop (rec (if jump.isNone then .ready else .done) jump))) := by
          rw [hend]; rw [hrec]
        have hs4 := hs3.setOpq (o' := .loop (rec (if jump.isNone then .ready else .done) jump)) hA3 hEl3 rfl
        rw [hcr] at hs4
        obtain ⟨D', E', _, _, _, q1, q2, q3, q4, q5, q6⟩ := hs4.leave0 (held_backs hbk _)
        exact ⟨_, _, hend', _, D', E', .bool jump.isNone, _, rfl, hp, ⟨[.bool jump.isNone], by simp [isPack, AV.isAgg], by simp [rc]⟩, q1, q2, q3, q4, q5, q6⟩
      cases e with
      | normal =>
        obtain ⟨os, hbk, hin⟩ := hq3
        exact fin os none hbk (hpost _ _ (.inl ⟨rfl, by rw [hI']; exact ⟨os, rfl, hin⟩⟩))
      | ret =>
        obtain ⟨os, hbk, hin⟩ := hq3
        exact fin os (some .ret) hbk (hpost _ _ (.inr ⟨rfl, by rw [hIx']; exact ⟨none, os, rfl, hin⟩⟩))
      | exit id =>
        obtain ⟨os, hbk, hin⟩ := hq3
        exact fin os (some (.exit id)) hbk (hpost _ _ (.inr ⟨rfl, by rw [hIx']; exact ⟨some id, os, rfl, hin⟩⟩))
      | goto t => exact hq3.elim
      | panic ch => exact hq3.elim
      | outgrown => exact hq3.elim
    -- the call
    have hargs : All2 (rv W1 D E1) (.raw yv :: caps) (yv :: vs) := by
      exact .cons ⟨[yv], by simp [isPack, AV.isAgg], by rw [hyv]; exact ⟨rfl, rfl⟩⟩ (rvs_all2 (hup caps vs hvs))
    have hus := hand.use (ρ := ρ) hs1 false (fun h => h.mono) ⟨(fun h => by cases h), fun _ => by rw [← hDh, ← hEh]; exact hyok⟩ hgv1 (argsOk_closed _ (by simp [AV.closeds, AV.closed, hcl]))
      (fun r os' hp => by
        have gg : GoodO os1 os' := by
          rcases hp.2 with h | h
          · exact good _ _ h
          · exact goodx _ h
        refine ⟨fun m x hx => ⟨(gg.ok m x hx).1, (gg.ok m x hx).2, fun h => by cases h⟩, fun m m' h1 h2 => hgv1.inj m m' (by rw [← gg.same]; exact h1) (by rw [← gg.same]; exact h2), fun m hm => by rw [gg.same]; exact hm, fun m h1 h2 => (by rw [gg.same, h2] at h1; cases h1), (by rw [hp.1]; simp [AV.only, AV.onlys]), fun h => by cases h⟩) hargs
    have ecl : #[yv] ++ vs.toArray = (yv :: vs).toArray := by simp
    rw [ecl]
    refine CallsIn.mono (callsIn_wide.2 hus) ?_
    rintro e w3 ⟨v, r, os', D2, E2, rfl, hp, hs2, _, hE2⟩
    have key : ∀ (o3 : Obj) (osb : List (Nat × AO)), os' = recd o3 osb → isRec o3 = true → E2 999999 = some (.op l) ∧ w3.heap[l]? = some o3 ∧ ∀ o4, isRec o4 = true → Sim c (mkA ts (renO ρ osb ++ os0)) a1 (w3.putObj l o4) := fun o3 osb he h3 => by
      subst he
      have hn2 : E2 999999 = some (.op l) := by
        have := hE2 1999999 (.op l) (by rw [← hEh]; exact hEl) rfl (by rw [isIn_recd]; simp)
        rwa [hρ] at this
      have eos : renO ρ (recd o3 osb) = (999999, .opq o3) :: renO ρ osb := by simp only [recd, renO, List.map_cons, hρ, AO.ren]
      rw [eos] at hs2
      have ha : (mkA ts ((999999, AO.opq o3) :: renO ρ osb ++ (999999, .opq (.loop (rec .ready none))) :: os0)).o 999999 = some (.opq o3) := by simp [mkA, lookO]
      have hgb : ∀ m, isIn osb m = true → rnm ρ m ≠ 999999 := fun m hm e => by
        have h5 : isIn (recd o3 osb) m = true := by rw [isIn_recd, hm]; simp
        have g5 : GoodO os1 (recd o3 osb) := by
          rcases hp.2 with h | h
          · exact good _ _ h
          · exact goodx _ h
        have h6 := hgv1.inj m 1999999 (by rw [← g5.same]; exact h5) isrec (by rw [hρ]; exact e)
        subst h6
        have h7 : GoodO osb0 osb := by
          rcases hp.2 with h | h
          · rw [hI'] at h; obtain ⟨osb', h8, h9⟩ := h
            simp only [recd, List.cons.injEq] at h8
            rw [h8.2]; exact hI _ _ h9
          · rw [hIx'] at h; obtain ⟨e, osb', h8, h9⟩ := h
            simp only [recd, List.cons.injEq] at h8
            rw [h8.2]; exact hIx _ _ h9
        rw [h7.same, h19] at hm; cases hm
      refine ⟨hn2, ?_, fun o4 h4 => ?_⟩
      · have ho := hs2.obj 999999
        rw [ha] at ho
        obtain ⟨b, k1, _, k3, _⟩ := ho
        rw [hn2] at k1; cases k1; exact k3
      · have h5 := (hs2.setOpq (o' := o4) ha hn2 h4).dropOpq hn2
        have hst : (⟨((mkA ts ((999999, AO.opq o3) :: renO ρ osb ++ (999999, .opq (.loop (rec .ready none))) :: os0)).setO 999999 (.opq o4)).t, fun m => if m = 999999 then none else
            ((mkA ts ((999999, AO.opq o3) :: renO ρ osb ++ (999999, .opq (.loop (rec .ready none))) :: os0)).setO 999999 (.opq o4)).o m⟩ : AState) = mkA ts (renO ρ osb ++ os0) := by
          simp only [mkA, AState.setO]
          congr 1
          funext m
          by_cases hm : m = 999999
          · subst hm
            simp only [if_true, lookO_renO]
            cases hq : pre ρ osb 999999 with
            | none => exact hfree.symm
            | some k => exact absurd (pre_some hq).2 (hgb k (pre_some hq).1)
          · simp only [if_neg hm, List.cons_append, lookO, lookO_renO]
        rw [hst] at h5
        exact ⟨D2, _, h5⟩
    rcases hp.2 with h | h
    · rw [hI'] at h
      obtain ⟨osb, he, hin⟩ := h
      obtain ⟨k1, k2, k3⟩ := key _ osb he rfl
      refine ⟨none, _, (by have := run_endLoop (P := c.P) k2 (by rw [hrec]; simp); rw [hrec] at this; exact this), _, hdone osb hin, ?_⟩
      have := k3 (.loop { rec .ready none with state := .exhausted }) rfl
      rw [ha1] at this
      rw [hrec] at this
      exact this
    · rw [hIx'] at h
      obtain ⟨e, osb, he, hin⟩ := h
      obtain ⟨k1, k2, k3⟩ := key _ osb he rfl
      refine ⟨some (jumpOf e), _, (by have := run_endLoop (P := c.P) k2 (by rw [hrec]; simp); rw [hrec] at this; exact this), ?_⟩
      have := k3 (.loop { rec .done (some (jumpOf e)) with state := .exhausted }) rfl
      rw [ha1] at this
      rw [hrec] at this
      have hq : liftQ c Q (exitOf e) { a with defers := { target := .collected w.heap.size, args := #[] } :: a.defers } _ := ⟨_, hexit e osb hin, this⟩
      cases e with
      | none => exact wpIn_ret hq
      | some id => exact wpIn_exit hq

end
end Go.Abs

/-
  THE ABSTRACT LAYER, 23: lemmas for iterators: what a call of yield leaves of the iterator's own state. Over any program.
-/
namespace Go.Abs
open Go Go.RowKit
open Enc (enc)

mutual
theorem ren_id {ρ : Nat → Nat} (h : ∀ n, ρ n = n) : ∀ x : AV, x.ren ρ = x
  | .agg fs | .tuple fs => by simp only [AV.ren]; rw [rens_id h fs]
  | .slice _ es => by simp only [AV.ren]; rw [rens_id h es]
  | .ref x => by simp only [AV.ren]; rw [ren_id h x]
  | .func _ caps => by simp only [AV.ren]; rw [rens_id h caps]
  | .iface _ v => by simp only [AV.ren]; rw [ren_id h v]
  | .ptr _ _ | .own _ _ | .view _ _ _ _ _ => by simp only [AV.ren, h]
  | .bool _ | .int _ _ | .str _ | .nilp | .nilf | .nili | .raw _ | .nils _ | .c0 _ | .undef | .top => by simp only [AV.ren]
theorem rens_id {ρ : Nat → Nat} (h : ∀ n, ρ n = n) : ∀ xs : List AV, AV.rens ρ xs = xs
  | [] => rfl
  | x :: xs => by simp only [AV.rens]; rw [ren_id h x, rens_id h xs]
end
theorem AO.ren_id {ρ : Nat → Nat} (h : ∀ n, ρ n = n) : ∀ x : AO, x.ren ρ = x
  | .box x => by simp only [AO.ren, Abs.ren_id h]
  | .row _ _ es => by simp only [AO.ren, rens_id h]
  | .opq _ => rfl
theorem renO_id (os : List (Nat × AO)) : renO [] os = os := by
  simp only [renO]
  have : (fun q : Nat × AO => (rnm [] q.1, q.2.ren (rnm []))) = id := by
    funext q
    rw [AO.ren_id (ρ := rnm []) (fun n => rfl)]; rfl
  rw [this, List.map_id]

theorem lookO_app (a b : List (Nat × AO)) (n : Nat) : lookO (a ++ b) n = match lookO a n with
    | some x => some x
    | none => lookO b n := by
  induction a with
  | nil => rfl
  | cons q a ih =>
    obtain ⟨k, v⟩ := q
    simp only [List.cons_append, lookO]
    split
    · rfl
    · exact ih

theorem GoodO.none {os os' : List (Nat × AO)} (h : GoodO os os') {n : Nat} (hn : n < 1000000) : lookO os' n = none := by
  cases hx : lookO os' n with
  | none => rfl
  | some x =>
    have h1 : isIn os' n = true := by simp [isIn, hx]
    rw [h.same] at h1
    exact absurd (h.great n h1) (by omega)

/-- Slots left out; objects in another order. -/
theorem Sub.slots {ts ts' : List (Nat × AV)} {os os' : List (Nat × AO)} (h1 : subT ts ts') (h2 : ∀ n, lookO os n = lookO os' n) : Sub (mkA ts os) (mkA ts' os') := by
  have e : mkA ts os = mkA ts os' := by
    simp only [mkA]; congr 1; funext n; exact h2 n
  rw [e]
  rintro c a w ⟨D, E, hs⟩
  refine ⟨D, E, hs.sz, hs.defs, fun t => ?_, hs.unch, hs.dom, hs.live, hs.obj, hs.sep, hs.hist, hs.nam, hs.up, hs.yok⟩
  rcases subT_get h1 t with h | h
  · simp only [mkA]; rw [h]; simp [rv]
  · have := hs.tm t
    simp only [mkA] at *
    rw [h]; exact this

/-- The iterator's own objects stay, the others are as the round has left them. -/
theorem back_eq {os osk os2 ow : List (Nat × AO)} {ts : List (Nat × AV)} (h1 : GoodO os osk) (h2 : GoodO os os2) (how : ∀ m, isIn ow m = true → m < 1000000) : mkA ts (renO [] os2 ++ (ow ++ osk)) = mkA ts (ow ++ os2) := by
  simp only [mkA, renO_id]
  congr 1
  funext n
  simp only [lookO_app]
  cases hw : lookO ow n with
  | none =>
    simp only
    cases h3 : lookO os2 n with
    | some x => rfl
    | none =>
      simp only
      cases h4 : lookO osk n with
      | none => rfl
      | some x =>
        have h5 : isIn osk n = true := by simp [isIn, h4]
        rw [h1.same, ← h2.same] at h5
        simp [isIn, h3] at h5
  | some x =>
    simp only
    rw [h2.none (how n (by simp [isIn, hw]))]

theorem Gvn.good {os osk ow : List (Nat × AO)} (h1 : GoodO os osk) (how : ∀ m, isIn ow m = true → m < 1000000) : Gvn [] osk (ow ++ osk) := by
  refine ⟨fun m x hx => ?_, fun m m' _ _ h => h⟩
  have hm : isIn osk m = true := by simp [isIn, hx]
  have hg := h1.great m (by rw [← h1.same]; exact hm)
  obtain ⟨k1, k2⟩ := h1.ok m x hx
  refine ⟨?_, k1, k2⟩
  rw [AO.ren_id (ρ := rnm []) (fun n => rfl)]
  simp only [rnm, lookO_app]
  cases hw : lookO ow m with
  | none => exact hx
  | some y => have := how m (by simp [isIn, hw]); omega

theorem Bck.good {os osk os2 os0 : List (Nat × AO)} {r : AV} (h1 : GoodO os osk) (h2 : GoodO os os2) (hr : r.closed = true) : Bck false [] osk os0 r os2 := by
  refine ⟨fun m x hx => ⟨(h2.ok m x hx).1, (h2.ok m x hx).2, fun h => by cases h⟩, fun m m' _ _ h => h, fun m hm => by rw [h2.same, ← h1.same]; exact hm, fun m h3 h4 => ?_, only_closed _ r hr, fun h => by cases h⟩
  rw [h2.same, ← h1.same, h4] at h3; cases h3

/-- A call of yield, by an iterator with objects of its own. -/
theorem WP.yields {P : Program} {Y : Value → List AV → List (Nat × AO) → Post → Prop} {K : AState → Prop} {v : Value} {vs : List AV} {dst : Option Nat} {rest : List G} {ts : List (Nat × AV)} {os osk ow : List (Nat × AO)} {In Ix : List (Nat × AO) → Prop}
    (hY : Y v vs osk (fun r os2 => (r = .bool true ∧ In os2) ∨ (r = .bool false ∧ Ix os2))) (hk : GoodO os osk) (hi : ∀ os', In os' → GoodO os os') (hx : ∀ os', Ix os' → GoodO os os') (hcl : AV.closeds vs = true) (how : ∀ m, isIn ow m = true → m < 1000000)
    (h1 : ∀ os2, In os2 → WP P Y false K (aops rest ((mkA ts (ow ++ os2)).putO dst (.bool true)))) (h2 : ∀ os2, Ix os2 → WP P Y false K (aops rest ((mkA ts (ow ++ os2)).putO dst (.bool false)))) :
    WP P Y false K (.callr v vs dst rest (mkA ts (ow ++ osk))) := by
  refine .yld osk vs _ rfl hY (Gvn.good hk how) (argsOk_closed vs hcl) ?_ ?_
  · rintro r os' (⟨rfl, h⟩ | ⟨rfl, h⟩)
    · exact Bck.good hk (hi _ h) rfl
    · exact Bck.good hk (hx _ h) rfl
  · rintro r os' (⟨rfl, h⟩ | ⟨rfl, h⟩)
    · rw [back_eq hk (hi _ h) how]; exact h1 os' h
    · rw [back_eq hk (hx _ h) how]; exact h2 os' h

theorem callvR_raw (A : AState) (d : Option Nat) (args : List AV) (rest : List G) (v : Value) : callvR A d args rest (.raw v) = .callr v args d rest A := rfl

end Go.Abs

/-
  FUNCTIONS OF mark BY CONTRACT: the iterator marks.
-/
namespace Go.Proofs.Ytkjkbpgdpnapfaa
open Go Go.Abs
open Go.Abs.Enc (enc)

/-- The digits of a number in base five, six places. -/
def dg (k : Nat) : Nat → Int
  | 0 => ((k / 5 / 5 / 5 / 5 / 5 % 5 : Nat) : Int)
  | 1 => ((k / 5 / 5 / 5 / 5 % 5 : Nat) : Int)
  | 2 => ((k / 5 / 5 / 5 % 5 : Nat) : Int)
  | 3 => ((k / 5 / 5 % 5 : Nat) : Int)
  | 4 => ((k / 5 % 5 : Nat) : Int)
  | 5 => ((k % 5 : Nat) : Int)
  | _ => 0
def dgs (k : Nat) : Arr 6 Int := ⟨[dg k 0, dg k 1, dg k 2, dg k 3, dg k 4, dg k 5], rfl⟩
/-- The places behind i are nought. -/
def carry (k : Nat) : Nat → Arr 6 Int
  | 0 => ⟨[dg k 0, 0, 0, 0, 0, 0], rfl⟩
  | 1 => ⟨[dg k 0, dg k 1, 0, 0, 0, 0], rfl⟩
  | 2 => ⟨[dg k 0, dg k 1, dg k 2, 0, 0, 0], rfl⟩
  | 3 => ⟨[dg k 0, dg k 1, dg k 2, dg k 3, 0, 0], rfl⟩
  | 4 => ⟨[dg k 0, dg k 1, dg k 2, dg k 3, dg k 4, 0], rfl⟩
  | _ => dgs k
def fours : Arr 6 Int := ⟨[4, 4, 4, 4, 4, 4], rfl⟩
def upto : Nat → Arr 6 Int
  | 0 => zero6
  | i + 1 => upd (upto i) i 4
theorem upto6 : upto 6 = fours := rfl
theorem dgs0 : dgs 0 = zero6 := rfl
theorem dg_in (k i : Nat) : 0 ≤ dg k i ∧ dg k i ≤ 4 := by
  unfold dg; split <;> omega

theorem carry_g (k : Nat) : ∀ i, i < 6 → (carry k i).g i = dg k i
  | 0, _ | 1, _ | 2, _ | 3, _ | 4, _ | 5, _ => rfl
  | n + 6, h => absurd h (by omega)
theorem carry_down (k : Nat) : ∀ i, i + 1 < 6 → upd (carry k (i + 1)) (i + 1) 0 = carry k i
  | 0, _ | 1, _ | 2, _ | 3, _ | 4, _ => rfl
  | n + 5, h => absurd h (by omega)
theorem arr_ext {n : Nat} {x y : Arr n Int} (h : x.l = y.l) : x = y := by
  cases x; cases y; simp only at h; subst h; rfl
theorem carry_up (k : Nat) (hk : k < 15625) : ∀ i, i < 6 → (∀ j, i < j → j < 6 → dg k j = 4) → dg k i ≠ 4 → upd (carry k i) i (dg k i + 1) = dgs (k + 1)
  | 0, _, hj, hi => by
    have h1 := hj 1 (by decide) (by decide); have h2 := hj 2 (by decide) (by decide); have h3 := hj 3 (by decide) (by decide); have h4 := hj 4 (by decide) (by decide); have h5 := hj 5 (by decide) (by decide)
    refine arr_ext ?_
    simp only [upd, carry, dgs, dg, List.set_cons_zero, List.set_cons_succ] at *
    simp only [List.cons.injEq, and_true]
    omega
  | 1, _, hj, hi => by
    have h2 := hj 2 (by decide) (by decide); have h3 := hj 3 (by decide) (by decide); have h4 := hj 4 (by decide) (by decide); have h5 := hj 5 (by decide) (by decide)
    refine arr_ext ?_
    simp only [upd, carry, dgs, dg, List.set_cons_zero, List.set_cons_succ] at *
    simp only [List.cons.injEq, and_true]
    omega
  | 2, _, hj, hi => by
    have h3 := hj 3 (by decide) (by decide); have h4 := hj 4 (by decide) (by decide); have h5 := hj 5 (by decide) (by decide)
    refine arr_ext ?_
    simp only [upd, carry, dgs, dg, List.set_cons_zero, List.set_cons_succ] at *
    simp only [List.cons.injEq, and_true]
    omega
  | 3, _, hj, hi => by
    have h4 := hj 4 (by decide) (by decide); have h5 := hj 5 (by decide) (by decide)
    refine arr_ext ?_
    simp only [upd, carry, dgs, dg, List.set_cons_zero, List.set_cons_succ] at *
    simp only [List.cons.injEq, and_true]
    omega
  | 4, _, hj, hi => by
    have h5 := hj 5 (by decide) (by decide)
    refine arr_ext ?_
    simp only [upd, carry, dgs, dg, List.set_cons_zero, List.set_cons_succ] at *
    simp only [List.cons.injEq, and_true]
    omega
  | 5, _, hj, hi => by
    refine arr_ext ?_
    simp only [upd, carry, dgs, dg, List.set_cons_zero, List.set_cons_succ] at *
    simp only [List.cons.injEq, and_true]
    omega
  | n + 6, h, _, _ => absurd h (by omega)
theorem dgs_fours (k : Nat) (hk : k < 15625) : (dgs k).l = fours.l ↔ k = 15624 := by
  simp only [dgs, dg, fours, List.cons.injEq, and_true]
  omega
theorem dg_fours (k : Nat) (hk : k < 15625) (h : ∀ j, j < 6 → dg k j = 4) : k = 15624 := by
  have h0 := h 0 (by decide); have h1 := h 1 (by decide); have h2 := h 2 (by decide); have h3 := h 3 (by decide); have h4 := h 4 (by decide); have h5 := h 5 (by decide)
  simp only [dg] at *
  omega

end Go.Proofs.Ytkjkbpgdpnapfaa

/-
  FUNCTIONS OF mark BY CONTRACT: the iterator marks, its walk.
-/
namespace Go.Proofs.Ytkjkbpgdpnapfaa
open Go Go.Abs
open Go.Abs.Enc (enc)

theorem own23 {a b : AO} : ∀ m, isIn [(2, a), (3, b)] m = true → m < 1000000 := fun m h => by
  simp only [isIn, lookO] at h
  split at h
  · omega
  · split at h
    · omega
    · simp at h

theorem heldG {os os2 ow : List (Nat × AO)} {ts : List (Nat × AV)} (h : GoodO os os2) (how : ∀ m, isIn ow m = true → m < 1000000) : ∀ n x, lookO os2 n = some x → (mkA ts (ow ++ os2)).o n = some x ∧ x.only (isIn os2) = true ∧ x.fix = true := fun n x hx => by
  have hn : isIn os2 n = true := by simp [isIn, hx]
  have hg := h.great n (by rw [← h.same]; exact hn)
  refine ⟨?_, h.ok n x hx⟩
  simp only [mkA, lookO_app]
  cases hw : lookO ow n with
  | none => exact hx
  | some y => have := how n (by simp [isIn, hw]); omega

theorem F121 : Iter Try.prog 121 [] 15625 (fun k => [enc (dgs k)]) := by
  intro Y v I Ix os hv hY hI hIx h0
  have hG := hI 0 os h0
  refine CtrY.mk' Try.func121 ca121 cc121 cr121 (Nat.le_of_ble_eq_true rfl) (Nat.le_of_ble_eq_true rfl) hG.great (fun hwf W0 D0 E1 => ?_)
  simp only [c121, r121, idx, Nat.zero_add, Nat.reduceAdd]
  have n2 := hG.none (n := 2) (by decide)
  have n3 := hG.none (n := 3) (by decide)
  refine AW.seq (AW.reg cd121_0 fun K hK => ?_)
  simp only [g121_0, bR, Nat.reduceEqDiff, reduceIte, Int.reduceBNe, Int.reduceBEq]
  simp only [n2, n3, e_zero6, bR, Nat.reduceEqDiff, reduceIte, Int.reduceBNe, Int.reduceBEq]
  refine .done (hK _ ?_); clear hK K; simp only [thenQ, blockQ]
  refine AW.seq ?_
  refine AW.seq (AW.reg cd121_1 fun K hK => ?_)
  simp only [g121_1, bR, Nat.reduceEqDiff, reduceIte, Int.reduceBNe, Int.reduceBEq]
  refine .done (hK _ ?_); clear hK K; simp only [thenQ, blockQ]
  refine AW.block (AW.loop (fun i : Nat => mkA [(0, .raw v), (2, .ptr 2 []), (3, .ptr 3 []), (6, .int .i64 i)] ((2, .box (enc zero6)) :: (3, .box (enc (upto i))) :: os)) (fun i => i ≤ 6) (fun i => 6 - i) 0 (by omega) ?_ (fun i hi => ?_))
  · refine Sub.slots ?_ (fun n => ?_)
    · simp [subT, look_cons]
    · simp only [lookO_cons, upto]; (repeat' split) <;> simp_all
  refine AW.seq (AW.reg cd121_2 fun K hK => ?_)
  simp only [g121_2, bR, Nat.reduceEqDiff, reduceIte, Int.reduceBNe, Int.reduceBEq]
  refine .done (hK _ ?_); clear hK K; simp only [thenQ, blockQ]
  refine AW.seq ?_
  refine AW.ite ?_
  simp only [condQ, bR, Nat.reduceEqDiff, reduceIte, Int.reduceBNe, Int.reduceBEq]
  refine ⟨fun h => ?_, fun h => ?_⟩
  · have hlt : i < 6 := by simp at h; omega
    refine AW.skip ?_; simp only [thenQ, blockQ, reduceIte, Nat.reduceEqDiff]
    refine AW.seq (AW.block ?_)
    refine AW.seq (AW.reg cd121_3 fun K hK => ?_)
    simp only [g121_3, bR, Nat.reduceEqDiff, reduceIte, Int.reduceBNe, Int.reduceBEq]
    refine .done (hK _ ?_); clear hK K; simp only [thenQ, blockQ]
    refine AW.reg cd121_4 fun K hK => ?_
    simp only [g121_4, bR, Nat.reduceEqDiff, reduceIte, Int.reduceBNe, Int.reduceBEq]
    simp only [typR, useR, okR, inB_int 1 (upto i) (show (0 : Int) ≤ i ∧ (i : Int) < (6 : Nat) by omega) rfl, atL_g (upto i) hlt, stR3_g (upto i) hlt, bR, Nat.reduceEqDiff, reduceIte, Int.reduceBNe, Int.reduceBEq]
    refine .done (hK _ ?_); clear hK K; simp only [thenQ, blockQ]
    refine AW.reg cd121_5 fun K hK => ?_
    simp only [g121_5, bR, Nat.reduceEqDiff, reduceIte, Int.reduceBNe, Int.reduceBEq]
    refine .done (hK _ ?_); clear hK K; simp only [thenQ, blockQ]
    refine ⟨i + 1, by omega, by omega, ?_⟩
    rw [wrap_id _ (by omega) (by omega)]
    refine Sub.slots ?_ (fun n => ?_)
    · simp [subT, look_cons]
    · simp only [lookO_cons, upto]; (repeat' split) <;> simp_all
  have h6 : i = 6 := by simp at h; omega
  subst h6
  rw [upto6]
  refine AW.exit ?_; simp only [thenQ, blockQ, reduceIte, Nat.reduceEqDiff]
  -- the marks, one after the other
  refine AW.block (AW.loop (fun s : Nat × List (Nat × AO) => mkA [(0, .raw v), (2, .ptr 2 []), (3, .ptr 3 [])] ((2, .box (enc (dgs s.1))) :: (3, .box (enc fours)) :: s.2)) (fun s => s.1 < 15625 ∧ I s.1 s.2) (fun s => 15625 - s.1) (0, os) ⟨by simp only; omega, h0⟩ ?_ ?_)
  · simp only [dgs0]
    refine Sub.slots ?_ (fun n => rfl)
    simp [subT, look_cons]
  rintro ⟨k, osk⟩ ⟨hk, hIk⟩
  simp only at hk hIk ⊢
  have gk := hI k osk hIk
  refine AW.seq (AW.seq ?_)
  refine AW.reg cd121_6 fun K hK => ?_
  simp only [g121_6, bR, Nat.reduceEqDiff, reduceIte, Int.reduceBNe, Int.reduceBEq]
  simp only [typR, useR, okR, callvR_raw, bR, Nat.reduceEqDiff, reduceIte, Int.reduceBNe, Int.reduceBEq]
  refine WP.yields (ow := [(2, _), (3, _)]) (In := I (k + 1)) (Ix := Ix) (hY k osk _ hk hIk (fun r os2 h => h)) gk (hI _) hIx (by simp [AV.closeds, e_closed]) own23 (fun os2 h2 => ?_) (fun os2 h2 => ?_)
  · have g2 := hI _ os2 h2
    simp only [List.cons_append, List.nil_append]
    simp only [typR, useR, okR, eqE_arr, bR, Nat.reduceEqDiff, reduceIte, Int.reduceBNe, Int.reduceBEq]
    refine .done (hK _ ?_); clear hK K; simp only [thenQ, blockQ]
    refine AW.ite ?_
    simp only [condQ, bR, Nat.reduceEqDiff, reduceIte, Int.reduceBNe, Int.reduceBEq]
    refine ⟨fun h => ?_, fun h => ?_⟩
    · have hne : k ≠ 15624 := fun e => by simp [(dgs_fours k hk).2 e] at h
      refine AW.skip ?_; simp only [thenQ, blockQ, reduceIte, Nat.reduceEqDiff]
      refine AW.block ?_
      refine AW.seq (AW.reg cd121_7 fun K hK => ?_)
      simp only [g121_7, bR, Nat.reduceEqDiff, reduceIte, Int.reduceBNe, Int.reduceBEq]
      refine .done (hK _ ?_); clear hK K; simp only [thenQ, blockQ]
      refine AW.seq (AW.block (AW.loop (fun i : Nat => mkA [(0, .raw v), (2, .ptr 2 []), (3, .ptr 3 []), (5, .int .i64 i)] ((2, .box (enc (carry k i))) :: (3, .box (enc fours)) :: os2)) (fun i => i < 6 ∧ ∀ j, i < j → j < 6 → dg k j = 4) (fun i => i) 5 ⟨by decide, fun j h1 h2 => by omega⟩ ?_ ?_))
      · refine Sub.slots ?_ (fun n => ?_)
        · simp [subT, look_cons]
        · simp only [lookO_cons]; (repeat' split) <;> simp_all [carry]
      rintro i ⟨hi, hj⟩
      refine AW.seq (AW.seq ?_)
      refine AW.reg cd121_8 fun K hK => ?_
      simp only [g121_8, bR, Nat.reduceEqDiff, reduceIte, Int.reduceBNe, Int.reduceBEq]
      simp only [typR, useR, okR, inB_int 1 (carry k i) (show (0 : Int) ≤ i ∧ (i : Int) < (6 : Nat) by omega) rfl, atL_g (carry k i) hi, carry_g k i hi, bR, Nat.reduceEqDiff, reduceIte, Int.reduceBNe, Int.reduceBEq]
      refine .done (hK _ ?_); clear hK K; simp only [thenQ, blockQ]
      refine AW.ite ?_
      simp only [condQ, bR, Nat.reduceEqDiff, reduceIte, Int.reduceBNe, Int.reduceBEq]
      refine ⟨fun h => ?_, fun h => ?_⟩
      · have h4 : dg k i = 4 := by simpa using h
        have hi0 : i ≠ 0 := fun e => by
          subst e
          exact hne (dg_fours k hk fun j hj6 => by
            rcases Nat.eq_zero_or_pos j with e | e
            · subst e; exact h4
            · exact hj j e hj6)
        obtain ⟨i', rfl⟩ : ∃ i', i = i' + 1 := ⟨i - 1, by omega⟩
        refine AW.skip ?_; simp only [thenQ, blockQ, reduceIte, Nat.reduceEqDiff]
        refine AW.block ?_
        refine AW.seq (AW.reg cd121_9 fun K hK => ?_)
        simp only [g121_9, bR, Nat.reduceEqDiff, reduceIte, Int.reduceBNe, Int.reduceBEq]
        simp only [typR, useR, okR, inB_int 1 (carry k (i' + 1)) (show (0 : Int) ≤ ((i' + 1 : Nat) : Int) ∧ ((i' + 1 : Nat) : Int) < (6 : Nat) by omega) rfl, atL_g (carry k (i' + 1)) hi, stR3_g (carry k (i' + 1)) hi, carry_down k i' hi, bR, Nat.reduceEqDiff, reduceIte, Int.reduceBNe, Int.reduceBEq]
        refine .done (hK _ ?_); clear hK K; simp only [thenQ, blockQ]
        refine AW.reg cd121_10 fun K hK => ?_
        simp only [g121_10, bR, Nat.reduceEqDiff, reduceIte, Int.reduceBNe, Int.reduceBEq]
        refine .done (hK _ ?_); clear hK K; simp only [thenQ, blockQ]
        refine ⟨i', ⟨by omega, fun j h1 h2 => ?_⟩, by omega, ?_⟩
        · rcases Nat.lt_or_ge (i' + 1) j with h5 | h5
          · exact hj j h5 h2
          · have : j = i' + 1 := by omega
            subst this; exact h4
        · rw [wrap_id _ (by omega) (by omega)]
          have e2 : (((i' + 1 : Nat) : Int) - 1) = (i' : Int) := by omega
          rw [e2]
          refine Sub.slots ?_ (fun n => ?_)
          · simp [subT, look_cons]
          · simp only [lookO_cons]; (repeat' split) <;> simp_all
      · have h4 : dg k i ≠ 4 := by simpa using h
        have hd := dg_in k i
        refine AW.exit ?_; simp only [thenQ, blockQ, reduceIte, Nat.reduceEqDiff]
        refine AW.reg cd121_11 fun K hK => ?_
        simp only [g121_11, bR, Nat.reduceEqDiff, reduceIte, Int.reduceBNe, Int.reduceBEq]
        simp only [typR, useR, okR, inB_int 1 (carry k i) (show (0 : Int) ≤ i ∧ (i : Int) < (6 : Nat) by omega) rfl, atL_g (carry k i) hi, carry_g k i hi, stR3_g (carry k i) hi, bR, Nat.reduceEqDiff, reduceIte, Int.reduceBNe, Int.reduceBEq]
        refine .done (hK _ ?_); clear hK K; simp only [thenQ, blockQ]
        refine ⟨(k + 1, os2), ⟨by simp only; omega, h2⟩, by simp only; omega, ?_⟩
        simp only
        rw [wrap_id _ (by omega) (by omega), carry_up k hk i hi hj h4]
        refine Sub.slots ?_ (fun n => ?_)
        · simp [subT, look_cons]
        · simp only [lookO_cons]; (repeat' split) <;> simp_all
    · have he : k = 15624 := by
        refine (dgs_fours k hk).1 ?_
        simpa using h
      subst he
      refine AW.exit ?_; simp only [thenQ, blockQ, reduceIte, Nat.reduceEqDiff]
      rw [retO_normal]
      exact ⟨os2, [], heldG (ow := [(2, _), (3, _)]) g2 own23, trivial, rfl, .inl h2⟩
  · have g2 := hIx os2 h2
    simp only [List.cons_append, List.nil_append]
    simp only [typR, useR, okR, bR, Nat.reduceEqDiff, reduceIte, Int.reduceBNe, Int.reduceBEq]
    refine .done (hK _ ?_); clear hK K; simp only [thenQ, blockQ]
    refine AW.ite ?_
    simp only [condQ, bR, Nat.reduceEqDiff, reduceIte, Int.reduceBNe, Int.reduceBEq]
    refine ⟨fun h => ?_, fun h => ?_⟩
    · cases h
    refine AW.exit ?_; simp only [thenQ, blockQ, reduceIte, Nat.reduceEqDiff]
    rw [retO_normal]
    exact ⟨os2, [], heldG (ow := [(2, _), (3, _)]) g2 own23, trivial, rfl, .inr h2⟩

theorem F101 : Ctr Try.prog 101 [] (.func 121 []) := by
  refine Ctr.mk' Try.func101 ca101 cc101 cr101 (Nat.le_of_ble_eq_true rfl) (fun hwf W0 D0 E1 => ?_)
  simp only [c101, r101, idx, Nat.zero_add, Nat.reduceAdd]
  refine AW.seq (AW.reg cd101_0 fun K hK => ?_)
  simp only [g101_0, bR, Nat.reduceEqDiff, reduceIte, Int.reduceBNe, Int.reduceBEq]
  refine .done (hK _ ?_); clear hK K; simp only [thenQ, blockQ]
  refine AW.seq (AW.reg cd101_1 fun K hK => ?_)
  simp only [g101_1, bR, Nat.reduceEqDiff, reduceIte, Int.reduceBNe, Int.reduceBEq]
  refine .done (hK _ ?_); clear hK K; simp only [thenQ, blockQ]
  refine AW.ret ?_
  simp only [blockQ, thenQ, bR, Nat.reduceEqDiff, reduceIte, Int.reduceBNe, Int.reduceBEq]

end Go.Proofs.Ytkjkbpgdpnapfaa

/-
  FUNCTIONS OF mark BY CONTRACT: Next.
-/
namespace Go.Proofs.Ytkjkbpgdpnapfaa
open Go Go.Abs
open Go.Abs.Enc (enc)

def blocked (m : Marks) (k : Arr 6 Int) : Bool := m.given.any fun g => tooNear m g.mark k
def nextK (m : Marks) : Option Nat := (List.range 15625).find? fun k => !blocked m (dgs k)
def nextOf (m : Marks) : Arr 6 Int × Int := if okM m then (if m.given.length = 40 then (zero6, 16) else match nextK m with
  | some k => (dgs k, 0)
  | none => (zero6, 16)) else (zero6, 13)

theorem find_range (p : Nat → Bool) {n k : Nat} (hk : k < n) (h1 : p k = true) (h2 : ∀ j, j < k → p j = false) : (List.range n).find? p = some k := by
  rw [List.find?_range_eq_some]
  exact ⟨h1, by simpa using hk, fun j hj => by simp [h2 j hj]⟩
theorem find_range_none (p : Nat → Bool) {n : Nat} (h : ∀ k, k < n → p k = false) : (List.range n).find? p = none := by
  rw [List.find?_eq_none]
  intro k hk
  simp [h k (by simpa using hk)]

theorem okMark_dgs (k : Nat) : okMark (dgs k) = true := by
  simp only [okMark, List.all_eq_true, List.mem_range]
  intro i hi
  have : (dgs k).g i = dg k i := by
    match i, hi with
    | 0, _ | 1, _ | 2, _ | 3, _ | 4, _ | 5, _ => rfl
    | n + 6, h => exact absurd h (by omega)
  rw [this]
  have := dg_in k i
  simp [inR, this.1, this.2]

def nx (m : Marks) (r : Arr 6 Int) (e : Int) : List (Nat × AO) := [(1000001, .box (enc m)), (1000002, .box (enc r)), (1000003, .box (.int .i64 e))]
theorem nx_good (m : Marks) (r : Arr 6 Int) (e : Int) (m' : Marks) (r' : Arr 6 Int) (e' : Int) : GoodO (nx m r e) (nx m' r' e') := by
  refine ⟨fun n => by simp only [nx, isIn, lookO]; (repeat' split) <;> rfl, fun n x h => ?_, fun n h => ?_⟩
  · simp only [nx, lookO] at h
    repeat' split at h
    all_goals first | (cases h; done) | (simp only [Option.some.injEq] at h; subst h; exact ⟨by simp [AO.only, e_only, AV.only], rfl⟩)
  · simp only [nx, isIn, lookO] at h
    repeat' split at h
    all_goals first | omega | (simp at h; done)

theorem stR3_i {A : AState} {n : Nat} {b : AV} {v u : Int} {rest : List G} : stR3 A none n [] b (.int .i64 v) rest (some (.int .i64 u)) = aops rest (A.setO n (.box (.int .i64 v))) := by
  rw [stR3_ok (s := none) (v := .int .i64 v) (old := .int .i64 u) rfl rfl rfl, setAt_nil]
theorem stR3_6 {A : AState} {n : Nat} {b : AV} {v u : Arr 6 Int} {rest : List G} : stR3 A (some 6) n [] b (enc v) rest (some (enc u)) = aops rest (A.setO n (.box (enc v))) := by
  rw [stR3_ok (e_isVal _) (by rw [e_okS]; rfl) ((e_sh _).trans (e_sh _).symm), setAt_nil]

theorem stR3_G {A : AState} {n : Nat} {b : AV} {v u : Given} {rest : List G} : stR3 A (some 7) n [] b (enc v) rest (some (enc u)) = aops rest (A.setO n (.box (enc v))) := by
  rw [stR3_ok (e_isVal _) (by rw [e_okS]; rfl) ((e_sh _).trans (e_sh _).symm), setAt_nil]
theorem blocked_at {m : Marks} {k : Arr 6 Int} {i : Nat} (hi : i < m.given.length) (h : tooNear m (gv m i).mark k = true) : blocked m k = true := by
  simp only [blocked, List.any_eq_true]
  exact ⟨m.given[i], List.getElem_mem hi, by rw [gv_eq hi]; exact h⟩
theorem blocked_no {m : Marks} {k : Arr 6 Int} (h : ∀ i, i < m.given.length → tooNear m (gv m i).mark k = false) : blocked m k = false := by
  rw [blocked, List.any_eq_false]
  intro g hg
  obtain ⟨i, hi, rfl⟩ := List.getElem_of_mem hg
  rw [gv_eq hi, h i hi]; simp

theorem F55 (m : Marks) : Ctr Try.prog 55 [enc m] (.tuple [enc (nextOf m).1, enc (nextOf m).2]) := by
  refine Ctr.mk' Try.func55 ca55 cc55 cr55 (Nat.le_of_ble_eq_true rfl) (fun hwf W0 D0 E1 => ?_)
  simp only [c55, r55, idx, Nat.zero_add, Nat.reduceAdd]
  refine AW.seq (AW.reg cd55_0 fun K hK => ?_)
  simp only [g55_0, bR, Nat.reduceEqDiff, reduceIte, Int.reduceBNe, Int.reduceBEq]
  simp only [e_zero6, bR, Nat.reduceEqDiff, reduceIte, Int.reduceBNe, Int.reduceBEq]
  refine .done (hK _ ?_); clear hK K; simp only [thenQ, blockQ]
  refine AW.scope ?_
  refine AW.seq ?_
  refine AW.seq (AW.reg cd55_1 fun K hK => ?_)
  simp only [g55_1, bR, Nat.reduceEqDiff, reduceIte, Int.reduceBNe, Int.reduceBEq]
  simp only [typR, useR, okR, e_fin, bR, Nat.reduceEqDiff, reduceIte, Int.reduceBNe, Int.reduceBEq]
  refine .flat _ (F47 m) rfl ?_
  generalize hm : okM m = bm
  cases bm
  · try simp only [typR, useR, okR, e_fin, bR, Nat.reduceEqDiff, reduceIte, Int.reduceBNe, Int.reduceBEq]
    refine .done (hK _ ?_); clear hK K; simp only [thenQ, blockQ]
    refine AW.seq (AW.reg cd55_2 fun K hK => ?_)
    simp only [g55_2, bR, Nat.reduceEqDiff, reduceIte, Int.reduceBNe, Int.reduceBEq]
    refine .done (hK _ ?_); clear hK K; simp only [thenQ, blockQ]
    refine AW.ite ?_
    simp only [condQ, bR, Nat.reduceEqDiff, reduceIte, Int.reduceBNe, Int.reduceBEq]
    refine ⟨fun h => ?_, fun h => ?_⟩
    · refine AW.seq (AW.reg cd55_3 fun K hK => ?_)
      simp only [g55_3, bR, Nat.reduceEqDiff, reduceIte, Int.reduceBNe, Int.reduceBEq]
      simp only [setParts, e_zero6, bR, Nat.reduceEqDiff, reduceIte, Int.reduceBNe, Int.reduceBEq]
      simp only [stR3_6, stR3_i, bR, Nat.reduceEqDiff, reduceIte, Int.reduceBNe, Int.reduceBEq]
      refine .done (hK _ ?_); clear hK K; simp only [thenQ, blockQ]
      refine AW.ret ?_
      simp only [scopeQ, thenQ, blockQ, typR, e_fin, setAt_nil, e_int, bR, Nat.reduceEqDiff, reduceIte, Int.reduceBNe, Int.reduceBEq]
      simp [nextOf, hm, e_int]
    · cases h
  try simp only [typR, useR, okR, e_fin, bR, Nat.reduceEqDiff, reduceIte, Int.reduceBNe, Int.reduceBEq]
  refine .done (hK _ ?_); clear hK K; simp only [thenQ, blockQ]
  refine AW.seq (AW.reg cd55_2 fun K hK => ?_)
  simp only [g55_2, bR, Nat.reduceEqDiff, reduceIte, Int.reduceBNe, Int.reduceBEq]
  refine .done (hK _ ?_); clear hK K; simp only [thenQ, blockQ]
  refine AW.ite ?_
  simp only [condQ, bR, Nat.reduceEqDiff, reduceIte, Int.reduceBNe, Int.reduceBEq]
  refine ⟨fun h => ?_, fun h => ?_⟩
  · cases h
  refine AW.skip ?_; simp only [thenQ, blockQ, reduceIte, Nat.reduceEqDiff]
  refine AW.seq ?_
  refine AW.seq (AW.reg cd55_4 fun K hK => ?_)
  simp only [g55_4, bR, Nat.reduceEqDiff, reduceIte, Int.reduceBNe, Int.reduceBEq]
  try simp only [typR, useR, okR, e_fin, bR, Nat.reduceEqDiff, reduceIte, Int.reduceBNe, Int.reduceBEq]
  refine .done (hK _ ?_); clear hK K; simp only [thenQ, blockQ]
  refine AW.ite ?_
  simp only [condQ, bR, Nat.reduceEqDiff, reduceIte, Int.reduceBNe, Int.reduceBEq]
  refine ⟨fun h => ?_, fun h => ?_⟩
  · have h40 : m.given.length = 40 := by simp at h; omega
    refine AW.seq (AW.reg cd55_5 fun K hK => ?_)
    simp only [g55_5, bR, Nat.reduceEqDiff, reduceIte, Int.reduceBNe, Int.reduceBEq]
    simp only [setParts, e_zero6, bR, Nat.reduceEqDiff, reduceIte, Int.reduceBNe, Int.reduceBEq]
    simp only [stR3_6, stR3_i, bR, Nat.reduceEqDiff, reduceIte, Int.reduceBNe, Int.reduceBEq]
    refine .done (hK _ ?_); clear hK K; simp only [thenQ, blockQ]
    refine AW.ret ?_
    simp only [scopeQ, thenQ, blockQ, typR, e_fin, setAt_nil, e_int, bR, Nat.reduceEqDiff, reduceIte, Int.reduceBNe, Int.reduceBEq]
    simp [nextOf, hm, h40, e_int]
  have h40 : m.given.length ≠ 40 := by simp at h; omega
  have hlen := okM_len hm
  refine AW.skip ?_; simp only [thenQ, blockQ, reduceIte, Nat.reduceEqDiff]
  refine AW.seq (AW.label ?_)
  simp only [thenQ, blockQ]
  refine AW.seq ?_
  refine AW.seq (AW.reg cd55_6 fun K hK => ?_)
  simp only [g55_6, bR, Nat.reduceEqDiff, reduceIte, Int.reduceBNe, Int.reduceBEq]
  try simp only [typR, useR, okR, e_fin, bR, Nat.reduceEqDiff, reduceIte, Int.reduceBNe, Int.reduceBEq]
  refine .lead _ F101 ?_
  simp only [bR, Nat.reduceEqDiff, reduceIte, Int.reduceBNe, Int.reduceBEq]
  refine .done (hK _ ?_); clear hK K; simp only [thenQ, blockQ]
  refine AW.block (AW.rfun (osb0 := nx m zero6 0) (tsR := [(1, .ptr 1000001 []), (2, .ptr 1000002 []), (3, .ptr 1000003 [])]) (ρ := [(1999999, 999999), (1000001, 1), (1000002, 2), (1000003, 3)])
    (fun k os => os = nx m zero6 0 ∧ ∀ j, j < k → blocked m (dgs j) = true)
    (fun e os => e = none ∧ ∃ k, k < 15625 ∧ os = nx m (dgs k) 0 ∧ blocked m (dgs k) = false ∧ ∀ j, j < k → blocked m (dgs j) = true)
    rfl (Nat.le_of_ble_eq_true rfl) ?_ rfl ca121 F121 (fun _ => rfl) ?_ ?_ rfl (fun o => ⟨?_, ?_⟩) ?_ ?_ ?_ ⟨rfl, fun j h => by omega⟩ ?_ ?_ ?_)
  · simp only [bR, Nat.reduceEqDiff, reduceIte, Int.reduceBNe, Int.reduceBEq]
  · simp [lookO]
  · simp [nx, isIn, lookO]
  · intro n x hx
    simp only [recd, nx, lookO] at hx
    repeat' split at hx
    all_goals first | (cases hx; done) | (subst_vars; simp only [Option.some.injEq] at hx; subst hx; simp [recd, nx, rnm, lookO, AO.ren, AV.ren, e_ren, AO.only, AV.only, e_only, AO.fix, e_int])
  · intro a b ha hb
    simp only [recd, nx, isIn, lookO] at ha hb
    repeat' split at ha
    all_goals first | (simp at ha; done) | skip
    all_goals (repeat' split at hb)
    all_goals first | (simp at hb; done) | (subst_vars; simp [rnm])
  · simp [slotsOk, look_cons, AV.ren, rnm, AV.only, nx, isIn, lookO]
  · rintro k os ⟨rfl, _⟩; exact nx_good ..
  · rintro e os ⟨_, k, _, rfl, _⟩; exact nx_good ..
  · rintro k osb hk ⟨rfl, hall⟩ W1 D1 E1 l o1 o2
    simp only [putsT, recd, nx]
    refine AW.reg cd55_7 fun K hK => ?_
    simp only [g55_7, bR, Nat.reduceEqDiff, reduceIte, Int.reduceBNe, Int.reduceBEq]
    simp only [e_zero6, stR3_6, bR, Nat.reduceEqDiff, reduceIte, Int.reduceBNe, Int.reduceBEq]
    refine .done (hK _ ?_); clear hK K; simp only [thenQ, blockQ]
    refine ⟨by simp [mkA, lookO], ?_⟩
    simp only [bR, Nat.reduceEqDiff, reduceIte, Int.reduceBNe, Int.reduceBEq]
    refine AW.block (AW.seq ?_)
    refine AW.seq (AW.reg cd55_8 fun K hK => ?_)
    simp only [g55_8, bR, Nat.reduceEqDiff, reduceIte, Int.reduceBNe, Int.reduceBEq]
    try simp only [typR, useR, okR, e_fin, bR, Nat.reduceEqDiff, reduceIte, Int.reduceBNe, Int.reduceBEq]
    refine .done (hK _ ?_); clear hK K; simp only [thenQ, blockQ]
    refine AW.block (AW.loop (fun i : Nat => mkA [(1, .ptr 1000001 []), (2, .ptr 1000002 []), (3, .ptr 1000003 []), (5, .ptr 5 []), (22, enc m.given), (23, .int .i64 m.given.length), (24, .int .i64 i)]
      [(1999999, .opq o2), (5, .box (enc (dgs k))), (1000001, .box (enc m)), (1000002, .box (enc zero6)), (1000003, .box (.int .i64 0))]) (fun i => i ≤ m.given.length ∧ ∀ j, j < i → tooNear m (gv m j).mark (dgs k) = false) (fun i => m.given.length - i) 0 ⟨by omega, fun j h => by omega⟩ ?_ ?_)
    · refine Sub.of_lists ?_ ?_ ?_ ?_ <;> simp [subT, subO, onlyT, onlyO, isIn, look_cons, lookO_cons, lookO_nil, AV.only, AV.onlys, AO.only, onlys_map, onlys_append, e_only, e_int, e_bool]
    rintro i ⟨hi, hj⟩
    refine AW.seq (AW.reg cd55_9 fun K hK => ?_)
    simp only [g55_9, bR, Nat.reduceEqDiff, reduceIte, Int.reduceBNe, Int.reduceBEq]
    refine .done (hK _ ?_); clear hK K; simp only [thenQ, blockQ]
    refine AW.seq ?_
    refine AW.ite ?_
    simp only [condQ, bR, Nat.reduceEqDiff, reduceIte, Int.reduceBNe, Int.reduceBEq]
    refine ⟨fun h => ?_, fun h => ?_⟩
    · have hlt : i < m.given.length := by simp at h; omega
      refine AW.skip ?_; simp only [thenQ, blockQ, reduceIte, Nat.reduceEqDiff]
      refine AW.seq (AW.block ?_)
      refine AW.seq (AW.reg cd55_10 fun K hK => ?_)
      simp only [g55_10, bR, Nat.reduceEqDiff, reduceIte, Int.reduceBNe, Int.reduceBEq]
      try simp only [typR, useR, okR, e_fin, bR, Nat.reduceEqDiff, reduceIte, Int.reduceBNe, Int.reduceBEq]
      simp only [isE_gv hlt, bR, Nat.reduceEqDiff, reduceIte, Int.reduceBNe, Int.reduceBEq]
      try simp only [typR, useR, okR, e_fin, bR, Nat.reduceEqDiff, reduceIte, Int.reduceBNe, Int.reduceBEq]
      simp only [e_g0, stR3_G, bR, Nat.reduceEqDiff, reduceIte, Int.reduceBNe, Int.reduceBEq]
      refine .done (hK _ ?_); clear hK K; simp only [thenQ, blockQ]
      refine AW.seq ?_
      refine AW.reg cd55_11 fun K hK => ?_
      simp only [g55_11, bR, Nat.reduceEqDiff, reduceIte, Int.reduceBNe, Int.reduceBEq]
      try simp only [typR, useR, okR, e_fin, bR, Nat.reduceEqDiff, reduceIte, Int.reduceBNe, Int.reduceBEq]
      refine .flat _ (F87 m.wear (gv m i).mark (dgs k) (by rw [← gv_eq hlt]; exact okM_mark hm _ (List.getElem_mem hlt)) (okMark_dgs k)) rfl ?_
      try simp only [typR, useR, okR, e_fin, bR, Nat.reduceEqDiff, reduceIte, Int.reduceBNe, Int.reduceBEq]
      refine .done (hK _ ?_); clear hK K; simp only [thenQ, blockQ]
      have hdec : decide ((cnt (apartAt m.wear (gv m i).mark (dgs k)) 6 : Int) ≤ IntKind.i64.wrap (2 * m.fls)) = tooNear m (gv m i).mark (dgs k) := rfl
      refine AW.ite ?_
      simp only [condQ, bR, Nat.reduceEqDiff, reduceIte, Int.reduceBNe, Int.reduceBEq]
      refine ⟨fun h => ?_, fun h => ?_⟩
      · rw [hdec] at h
        refine AW.exit ?_; simp only [thenQ, blockQ, reduceIte, Nat.reduceEqDiff]
        refine ⟨nx m zero6 0, ?_, rfl, fun j hj1 => ?_⟩
        · intro n x hx
          simp only [recd, nx, lookO] at hx
          (repeat' split at hx) <;> first
            | (cases hx; done)
            | (subst_vars; simp only [Option.some.injEq] at hx; subst hx; simp [nx, recd, mkA, lookO, AO.only, AV.only, e_only, AO.fix])
        · rcases Nat.lt_or_ge j k with hlt' | hge
          · exact hall j hlt'
          · have : j = k := by omega
            subst this
            exact blocked_at hlt h
      · rw [hdec] at h
        refine AW.skip ?_; simp only [thenQ, blockQ, reduceIte, Nat.reduceEqDiff]
        refine AW.reg cd55_12 fun K hK => ?_
        simp only [g55_12, bR, Nat.reduceEqDiff, reduceIte, Int.reduceBNe, Int.reduceBEq]
        refine .done (hK _ ?_); clear hK K; simp only [thenQ, blockQ]
        refine ⟨i + 1, ⟨by omega, fun j hj1 => ?_⟩, by omega, ?_⟩
        · rcases Nat.lt_or_ge j i with hlt' | hge
          · exact hj j hlt'
          · have : j = i := by omega
            subst this; exact h
        · rw [wrap_id _ (by omega) (by omega)]
          refine Sub.of_lists ?_ ?_ ?_ ?_ <;> simp [subT, subO, onlyT, onlyO, isIn, look_cons, lookO_cons, lookO_nil, AV.only, AV.onlys, AO.only, onlys_map, onlys_append, e_only, e_int, e_bool]
    · have he : i = m.given.length := by simp at h; omega
      subst he
      refine AW.exit ?_; simp only [thenQ, blockQ, reduceIte, Nat.reduceEqDiff]
      refine AW.seq (AW.reg cd55_13 fun K hK => ?_)
      simp only [g55_13, bR, Nat.reduceEqDiff, reduceIte, Int.reduceBNe, Int.reduceBEq]
      simp only [stR3_6, stR3_i, typR, useR, okR, bR, Nat.reduceEqDiff, reduceIte, Int.reduceBNe, Int.reduceBEq]
      refine .done (hK _ ?_); clear hK K; simp only [thenQ, blockQ]
      refine AW.ret ?_
      simp only [thenQ, blockQ]
      refine ⟨nx m (dgs k) 0, ?_, rfl, k, hk, rfl, blocked_no hj, hall⟩
      intro n x hx
      simp only [recd, nx, lookO] at hx
      (repeat' split at hx) <;> first
        | (cases hx; done)
        | (subst_vars; simp only [Option.some.injEq] at hx; subst hx; simp [nx, recd, mkA, lookO, AO.only, AV.only, e_only, AO.fix])
  · rintro os ⟨rfl, hall⟩
    simp only [blockQ, thenQ, nx, renR, e_ren, List.cons_append, List.nil_append, bR, Nat.reduceEqDiff, reduceIte, Int.reduceBNe, Int.reduceBEq]
    refine AW.seq (AW.reg cd55_14 fun K hK => ?_)
    simp only [g55_14, bR, Nat.reduceEqDiff, reduceIte, Int.reduceBNe, Int.reduceBEq]
    simp only [setParts, e_zero6, stR3_6, stR3_i, bR, Nat.reduceEqDiff, reduceIte, Int.reduceBNe, Int.reduceBEq]
    refine .done (hK _ ?_); clear hK K; simp only [thenQ, blockQ]
    refine AW.ret ?_
    simp only [scopeQ, thenQ, blockQ, typR, e_fin, setAt_nil, e_int, bR, Nat.reduceEqDiff, reduceIte, Int.reduceBNe, Int.reduceBEq]
    have hn : nextK m = none := find_range_none _ fun k hk => by simp [hall k hk]
    simp [nextOf, hm, h40, hn, e_int]
  · rintro e os ⟨rfl, k, hk, rfl, hb, hall⟩
    simp only [exitOf, blockQ, thenQ, scopeQ, nx, renR, e_ren, List.cons_append, List.nil_append, typR, e_fin, bR, Nat.reduceEqDiff, reduceIte, Int.reduceBNe, Int.reduceBEq]
    have hn : nextK m = some k := find_range _ hk (by simp [hb]) fun j hj => by simp [hall j hj]
    simp [nextOf, hm, h40, hn, e_int]

end Go.Proofs.Ytkjkbpgdpnapfaa

/-
  FUNCTIONS OF mark BY CONTRACT: arePlaces, list; of cmp and slices: Compare.
-/
namespace Go.Proofs.Ytkjkbpgdpnapfaa
open Go Go.Abs
open Go.Abs.Enc (enc)

theorem F123 (x : Int) : Ctr Try.prog 123 [enc x] (enc false) := by
  refine Ctr.mk' Try.func123 ca123 cc123 cr123 (Nat.le_of_ble_eq_true rfl) (fun hwf W0 D0 E1 => ?_)
  simp only [c123, r123, idx, Nat.zero_add, Nat.reduceAdd]
  refine AW.seq (AW.reg cd123_0 fun K hK => ?_)
  simp only [g123_0, bR, Nat.reduceEqDiff, reduceIte, Int.reduceBNe, Int.reduceBEq]
  refine .done (hK _ ?_); clear hK K; simp only [thenQ, blockQ]
  refine AW.seq (AW.reg cd123_1 fun K hK => ?_)
  simp only [g123_1, bR, Nat.reduceEqDiff, reduceIte, Int.reduceBNe, Int.reduceBEq]
  refine .done (hK _ ?_); clear hK K; simp only [thenQ, blockQ]
  refine AW.ret ?_
  simp only [blockQ, thenQ, bR, Nat.reduceEqDiff, reduceIte, Int.reduceBNe, Int.reduceBEq]
  simp

def cmpI (x y : Int) : Int := if x < y then -1 else if y < x then 1 else 0
theorem F106 (x y : Int) : Ctr Try.prog 106 [enc x, enc y] (enc (cmpI x y)) := by
  refine Ctr.mk' Try.func106 ca106 cc106 cr106 (Nat.le_of_ble_eq_true rfl) (fun hwf W0 D0 E1 => ?_)
  simp only [c106, r106, idx, Nat.zero_add, Nat.reduceAdd]
  refine AW.seq (AW.reg cd106_0 fun K hK => ?_)
  simp only [g106_0, bR, Nat.reduceEqDiff, reduceIte, Int.reduceBNe, Int.reduceBEq]
  refine .done (hK _ ?_); clear hK K; simp only [thenQ, blockQ]
  refine AW.seq (AW.reg cd106_1 fun K hK => ?_)
  simp only [g106_1, bR, Nat.reduceEqDiff, reduceIte, Int.reduceBNe, Int.reduceBEq]
  refine .flat _ (F123 x) rfl ?_
  try simp only [typR, useR, okR, e_fin, bR, Nat.reduceEqDiff, reduceIte, Int.reduceBNe, Int.reduceBEq]
  refine .done (hK _ ?_); clear hK K; simp only [thenQ, blockQ]
  refine AW.seq (AW.reg cd106_2 fun K hK => ?_)
  simp only [g106_2, bR, Nat.reduceEqDiff, reduceIte, Int.reduceBNe, Int.reduceBEq]
  refine .flat _ (F123 y) rfl ?_
  try simp only [typR, useR, okR, e_fin, bR, Nat.reduceEqDiff, reduceIte, Int.reduceBNe, Int.reduceBEq]
  refine .done (hK _ ?_); clear hK K; simp only [thenQ, blockQ]
  refine AW.seq ?_
  refine AW.seq (AW.reg cd106_3 fun K hK => ?_)
  simp only [g106_3, bR, Nat.reduceEqDiff, reduceIte, Int.reduceBNe, Int.reduceBEq]
  refine .done (hK _ ?_); clear hK K; simp only [thenQ, blockQ]
  refine AW.ite ?_
  simp only [condQ, bR, Nat.reduceEqDiff, reduceIte, Int.reduceBNe, Int.reduceBEq]
  refine ⟨fun h => ?_, fun h => ?_⟩
  · cases h
  refine AW.skip ?_; simp only [thenQ, blockQ, reduceIte, Nat.reduceEqDiff]
  refine AW.seq ?_
  refine AW.seq (AW.reg cd106_7 fun K hK => ?_)
  simp only [g106_7, bR, Nat.reduceEqDiff, reduceIte, Int.reduceBNe, Int.reduceBEq]
  refine .done (hK _ ?_); clear hK K; simp only [thenQ, blockQ]
  refine AW.ite ?_
  simp only [condQ, bR, Nat.reduceEqDiff, reduceIte, Int.reduceBNe, Int.reduceBEq]
  refine ⟨fun h => ?_, fun h => ?_⟩
  · cases h
  refine AW.skip ?_; simp only [thenQ, blockQ, reduceIte, Nat.reduceEqDiff]
  refine AW.seq ?_
  refine AW.seq (AW.reg cd106_9 fun K hK => ?_)
  simp only [g106_9, bR, Nat.reduceEqDiff, reduceIte, Int.reduceBNe, Int.reduceBEq]
  refine .done (hK _ ?_); clear hK K; simp only [thenQ, blockQ]
  refine AW.ite ?_
  simp only [condQ, bR, Nat.reduceEqDiff, reduceIte, Int.reduceBNe, Int.reduceBEq]
  refine ⟨fun h => ?_, fun h => ?_⟩
  · refine AW.seq (AW.reg cd106_10 fun K hK => ?_)
    simp only [g106_10, bR, Nat.reduceEqDiff, reduceIte, Int.reduceBNe, Int.reduceBEq]
    refine .done (hK _ ?_); clear hK K; simp only [thenQ, blockQ]
    refine AW.ret ?_
    simp only [blockQ, thenQ, bR, Nat.reduceEqDiff, reduceIte, Int.reduceBNe, Int.reduceBEq]
    have : x < y := by simpa using h
    simp [cmpI, this, e_int]
  have h1 : ¬ x < y := by simpa using h
  refine AW.skip ?_; simp only [thenQ, blockQ, reduceIte, Nat.reduceEqDiff]
  refine AW.seq ?_
  refine AW.seq (AW.reg cd106_11 fun K hK => ?_)
  simp only [g106_11, bR, Nat.reduceEqDiff, reduceIte, Int.reduceBNe, Int.reduceBEq]
  refine .done (hK _ ?_); clear hK K; simp only [thenQ, blockQ]
  refine AW.ite ?_
  simp only [condQ, bR, Nat.reduceEqDiff, reduceIte, Int.reduceBNe, Int.reduceBEq]
  refine ⟨fun h => ?_, fun h => ?_⟩
  · refine AW.seq (AW.reg cd106_12 fun K hK => ?_)
    simp only [g106_12, bR, Nat.reduceEqDiff, reduceIte, Int.reduceBNe, Int.reduceBEq]
    refine .done (hK _ ?_); clear hK K; simp only [thenQ, blockQ]
    refine AW.ret ?_
    simp only [blockQ, thenQ, bR, Nat.reduceEqDiff, reduceIte, Int.reduceBNe, Int.reduceBEq]
    have : y < x := by simpa using h
    simp [cmpI, this, h1, e_int]
  have h2 : ¬ y < x := by simpa using h
  refine AW.skip ?_; simp only [thenQ, blockQ, reduceIte, Nat.reduceEqDiff]
  refine AW.seq (AW.reg cd106_13 fun K hK => ?_)
  simp only [g106_13, bR, Nat.reduceEqDiff, reduceIte, Int.reduceBNe, Int.reduceBEq]
  refine .done (hK _ ?_); clear hK K; simp only [thenQ, blockQ]
  refine AW.ret ?_
  simp only [blockQ, thenQ, bR, Nat.reduceEqDiff, reduceIte, Int.reduceBNe, Int.reduceBEq]
  simp [cmpI, h1, h2, e_int]

def cmpL : List Int → List Int → Int
  | [], [] => 0
  | [], _ :: _ => -1
  | _ :: _, [] => 1
  | a :: x, b :: y => if cmpI a b = 0 then cmpL x y else cmpI a b

theorem cmpL_drop {a b : List Int} {i : Nat} (ha : i < a.length) (hb : i < b.length) : cmpL (a.drop i) (b.drop i) = if cmpI (a.getD i 0) (b.getD i 0) = 0 then cmpL (a.drop (i + 1)) (b.drop (i + 1)) else cmpI (a.getD i 0) (b.getD i 0) := by
  rw [List.drop_eq_getElem_cons ha, List.drop_eq_getElem_cons hb]
  simp only [cmpL, List.getD_eq_getElem?_getD, List.getElem?_eq_getElem ha, List.getElem?_eq_getElem hb, Option.getD_some]

theorem F66 (a b : List Int) : Ctr Try.prog 66 [enc a, enc b] (enc (cmpL a b)) := by
  refine Ctr.mk' Try.func66 ca66 cc66 cr66 (Nat.le_of_ble_eq_true rfl) (fun hwf W0 D0 E1 => ?_)
  simp only [c66, r66, idx, Nat.zero_add, Nat.reduceAdd]
  have hlen : a.length ≤ maxLen := ((wf_list a).1 hwf.1).1
  have hlen2 : b.length ≤ maxLen := ((wf_list b).1 hwf.2.1).1
  simp only [maxLen] at hlen hlen2
  refine AW.seq (AW.reg cd66_0 fun K hK => ?_)
  simp only [g66_0, bR, Nat.reduceEqDiff, reduceIte, Int.reduceBNe, Int.reduceBEq]
  refine .done (hK _ ?_); clear hK K; simp only [thenQ, blockQ]
  refine AW.seq ?_
  refine AW.seq (AW.reg cd66_1 fun K hK => ?_)
  simp only [g66_1, bR, Nat.reduceEqDiff, reduceIte, Int.reduceBNe, Int.reduceBEq]
  try simp only [typR, useR, okR, e_fin, bR, Nat.reduceEqDiff, reduceIte, Int.reduceBNe, Int.reduceBEq]
  refine .done (hK _ ?_); clear hK K; simp only [thenQ, blockQ]
  refine AW.block (AW.loop (fun i : Nat => mkA [(0, enc a), (1, enc b), (9, enc a), (10, .int .i64 a.length), (11, .int .i64 i)] []) (fun i => i ≤ a.length ∧ i ≤ b.length ∧ cmpL a b = cmpL (a.drop i) (b.drop i)) (fun i => a.length - i) 0 ⟨by omega, by omega, rfl⟩ ?_ (fun i hi => ?_))
  · refine Sub.of_lists ?_ ?_ ?_ ?_ <;> simp [subT, subO, onlyT, onlyO, isIn, look_cons, lookO_cons, lookO_nil, AV.only, AV.onlys, AO.only, onlys_map, onlys_append, e_only, e_int, e_bool]
  obtain ⟨hi1, hi2, hi3⟩ := hi
  refine AW.seq (AW.reg cd66_2 fun K hK => ?_)
  simp only [g66_2, bR, Nat.reduceEqDiff, reduceIte, Int.reduceBNe, Int.reduceBEq]
  refine .done (hK _ ?_); clear hK K; simp only [thenQ, blockQ]
  refine AW.seq ?_
  refine AW.ite ?_
  simp only [condQ, bR, Nat.reduceEqDiff, reduceIte, Int.reduceBNe, Int.reduceBEq]
  refine ⟨fun h => ?_, fun h => ?_⟩
  case refine_2.refine_2 =>
    have hge : i = a.length := by simp at h; omega
    subst hge
    refine AW.exit ?_; simp only [thenQ, blockQ, reduceIte, Nat.reduceEqDiff]
    refine AW.seq ?_
    refine AW.seq (AW.reg cd66_11 fun K hK => ?_)
    simp only [g66_11, bR, Nat.reduceEqDiff, reduceIte, Int.reduceBNe, Int.reduceBEq]
    try simp only [typR, useR, okR, e_fin, bR, Nat.reduceEqDiff, reduceIte, Int.reduceBNe, Int.reduceBEq]
    refine .done (hK _ ?_); clear hK K; simp only [thenQ, blockQ]
    rw [List.drop_length] at hi3
    refine AW.ite ?_
    simp only [condQ, bR, Nat.reduceEqDiff, reduceIte, Int.reduceBNe, Int.reduceBEq]
    refine ⟨fun h => ?_, fun h => ?_⟩
    · refine AW.seq (AW.reg cd66_12 fun K hK => ?_)
      simp only [g66_12, bR, Nat.reduceEqDiff, reduceIte, Int.reduceBNe, Int.reduceBEq]
      refine .done (hK _ ?_); clear hK K; simp only [thenQ, blockQ]
      refine AW.ret ?_
      simp only [blockQ, thenQ, bR, Nat.reduceEqDiff, reduceIte, Int.reduceBNe, Int.reduceBEq]
      have hlt : a.length < b.length := by simp at h; omega
      rw [hi3, List.drop_eq_getElem_cons hlt]
      rfl
    · refine AW.skip ?_; simp only [thenQ, blockQ, reduceIte, Nat.reduceEqDiff]
      refine AW.seq (AW.reg cd66_13 fun K hK => ?_)
      simp only [g66_13, bR, Nat.reduceEqDiff, reduceIte, Int.reduceBNe, Int.reduceBEq]
      refine .done (hK _ ?_); clear hK K; simp only [thenQ, blockQ]
      refine AW.ret ?_
      simp only [blockQ, thenQ, bR, Nat.reduceEqDiff, reduceIte, Int.reduceBNe, Int.reduceBEq]
      have hge : b.length ≤ a.length := by simp at h; omega
      rw [hi3, List.drop_of_length_le hge]
      rfl
  have hlt : i < a.length := by simp at h; omega
  refine AW.skip ?_; simp only [thenQ, blockQ, reduceIte, Nat.reduceEqDiff]
  refine AW.seq (AW.block ?_)
  refine AW.seq (AW.reg cd66_3 fun K hK => ?_)
  simp only [g66_3, bR, Nat.reduceEqDiff, reduceIte, Int.reduceBNe, Int.reduceBEq]
  simp only [typR, useR, okR, isE_getD hlt, bR, Nat.reduceEqDiff, reduceIte, Int.reduceBNe, Int.reduceBEq]
  refine .done (hK _ ?_); clear hK K; simp only [thenQ, blockQ]
  refine AW.seq ?_
  refine AW.seq (AW.reg cd66_4 fun K hK => ?_)
  simp only [g66_4, bR, Nat.reduceEqDiff, reduceIte, Int.reduceBNe, Int.reduceBEq]
  try simp only [typR, useR, okR, e_fin, bR, Nat.reduceEqDiff, reduceIte, Int.reduceBNe, Int.reduceBEq]
  refine .done (hK _ ?_); clear hK K; simp only [thenQ, blockQ]
  refine AW.ite ?_
  simp only [condQ, bR, Nat.reduceEqDiff, reduceIte, Int.reduceBNe, Int.reduceBEq]
  refine ⟨fun h => ?_, fun h => ?_⟩
  · have hge : i = b.length := by simp at h; omega
    refine AW.seq (AW.reg cd66_5 fun K hK => ?_)
    simp only [g66_5, bR, Nat.reduceEqDiff, reduceIte, Int.reduceBNe, Int.reduceBEq]
    refine .done (hK _ ?_); clear hK K; simp only [thenQ, blockQ]
    refine AW.ret ?_
    simp only [blockQ, thenQ, bR, Nat.reduceEqDiff, reduceIte, Int.reduceBNe, Int.reduceBEq]
    rw [hi3, List.drop_of_length_le (l := b) (by omega), List.drop_eq_getElem_cons hlt]
    rfl
  have hlb : i < b.length := by simp at h; omega
  refine AW.skip ?_; simp only [thenQ, blockQ, reduceIte, Nat.reduceEqDiff]
  refine AW.seq (AW.reg cd66_6 fun K hK => ?_)
  simp only [g66_6, bR, Nat.reduceEqDiff, reduceIte, Int.reduceBNe, Int.reduceBEq]
  simp only [typR, useR, okR, isE_getD hlb, bR, Nat.reduceEqDiff, reduceIte, Int.reduceBNe, Int.reduceBEq]
  refine .done (hK _ ?_); clear hK K; simp only [thenQ, blockQ]
  refine AW.seq (AW.reg cd66_7 fun K hK => ?_)
  simp only [g66_7, bR, Nat.reduceEqDiff, reduceIte, Int.reduceBNe, Int.reduceBEq]
  try simp only [typR, useR, okR, e_fin, bR, Nat.reduceEqDiff, reduceIte, Int.reduceBNe, Int.reduceBEq]
  refine .flat _ (F106 (a.getD i 0) (b.getD i 0)) rfl ?_
  try simp only [typR, useR, okR, e_fin, bR, Nat.reduceEqDiff, reduceIte, Int.reduceBNe, Int.reduceBEq]
  refine .done (hK _ ?_); clear hK K; simp only [thenQ, blockQ]
  refine AW.seq (AW.reg cd66_8 fun K hK => ?_)
  simp only [g66_8, bR, Nat.reduceEqDiff, reduceIte, Int.reduceBNe, Int.reduceBEq]
  refine .done (hK _ ?_); clear hK K; simp only [thenQ, blockQ]
  rw [cmpL_drop hlt hlb] at hi3
  refine AW.ite ?_
  simp only [condQ, bR, Nat.reduceEqDiff, reduceIte, Int.reduceBNe, Int.reduceBEq]
  refine ⟨fun h => ?_, fun h => ?_⟩
  · refine AW.seq (AW.reg cd66_9 fun K hK => ?_)
    simp only [g66_9, bR, Nat.reduceEqDiff, reduceIte, Int.reduceBNe, Int.reduceBEq]
    refine .done (hK _ ?_); clear hK K; simp only [thenQ, blockQ]
    refine AW.ret ?_
    simp only [blockQ, thenQ, bR, Nat.reduceEqDiff, reduceIte, Int.reduceBNe, Int.reduceBEq]
    have : cmpI (a.getD i 0) (b.getD i 0) ≠ 0 := by simpa using h
    rw [hi3, if_neg this]
  · have : cmpI (a.getD i 0) (b.getD i 0) = 0 := by simpa using h
    refine AW.skip ?_; simp only [thenQ, blockQ, reduceIte, Nat.reduceEqDiff]
    refine AW.reg cd66_10 fun K hK => ?_
    simp only [g66_10, bR, Nat.reduceEqDiff, reduceIte, Int.reduceBNe, Int.reduceBEq]
    refine .done (hK _ ?_); clear hK K; simp only [thenQ, blockQ]
    refine ⟨i + 1, ⟨by omega, by omega, by rw [hi3, if_pos this]⟩, by omega, ?_⟩
    rw [wrap_id _ (by omega) (by omega)]
    refine Sub.of_lists ?_ ?_ ?_ ?_ <;> simp [subT, subO, onlyT, onlyO, isIn, look_cons, lookO_cons, lookO_nil, AV.only, AV.onlys, AO.only, onlys_map, onlys_append, e_only, e_int, e_bool]


end Go.Proofs.Ytkjkbpgdpnapfaa

/-
  FUNCTIONS OF mark BY CONTRACT: arePlaces, list.
-/
namespace Go.Proofs.Ytkjkbpgdpnapfaa
open Go Go.Abs
open Go.Abs.Enc (enc)

theorem F71 (l : List Int) : Ctr Try.prog 71 [enc l] (enc (okPlaces l)) := by
  refine Ctr.mk' Try.func71 ca71 cc71 cr71 (Nat.le_of_ble_eq_true rfl) (fun hwf W0 D0 E1 => ?_)
  simp only [c71, r71, idx, Nat.zero_add, Nat.reduceAdd]
  have hlen : l.length ≤ maxLen := ((wf_list l).1 hwf.1).1
  simp only [maxLen] at hlen
  refine AW.seq (AW.reg cd71_0 fun K hK => ?_)
  simp only [g71_0, bR, Nat.reduceEqDiff, reduceIte, Int.reduceBNe, Int.reduceBEq]
  refine .done (hK _ ?_); clear hK K; simp only [thenQ, blockQ]
  refine AW.seq ?_
  refine AW.seq (AW.reg cd71_1 fun K hK => ?_)
  simp only [g71_1, bR, Nat.reduceEqDiff, reduceIte, Int.reduceBNe, Int.reduceBEq]
  try simp only [typR, useR, okR, e_fin, bR, Nat.reduceEqDiff, reduceIte, Int.reduceBNe, Int.reduceBEq]
  refine .done (hK _ ?_); clear hK K; simp only [thenQ, blockQ]
  refine AW.block (AW.loop (fun i : Nat => mkA [(0, enc l), (5, enc l), (6, .int .i64 l.length), (7, .int .i64 i)] []) (fun i => i ≤ l.length ∧ ∀ j, j < i → placeAt l j = true) (fun i => l.length - i) 0 ⟨by omega, fun k h => by omega⟩ ?_ (fun i hi => ?_))
  · refine Sub.of_lists ?_ ?_ ?_ ?_ <;> simp [subT, subO, onlyT, onlyO, isIn, look_cons, lookO_cons, lookO_nil, AV.only, AV.onlys, AO.only, onlys_map, onlys_append, e_only, e_int, e_bool]
  refine AW.seq (AW.reg cd71_2 fun K hK => ?_)
  simp only [g71_2, bR, Nat.reduceEqDiff, reduceIte, Int.reduceBNe, Int.reduceBEq]
  refine .done (hK _ ?_); clear hK K; simp only [thenQ, blockQ]
  refine AW.seq ?_
  refine AW.ite ?_
  simp only [condQ, bR, Nat.reduceEqDiff, reduceIte, Int.reduceBNe, Int.reduceBEq]
  refine ⟨fun h => ?_, fun h => ?_⟩
  case refine_2.refine_2 =>
    have hge : i = l.length := by simp at h; omega
    subst hge
    refine AW.exit ?_; simp only [thenQ, blockQ, reduceIte, Nat.reduceEqDiff]
    refine AW.seq (AW.reg cd71_7 fun K hK => ?_)
    simp only [g71_7, bR, Nat.reduceEqDiff, reduceIte, Int.reduceBNe, Int.reduceBEq]
    refine .done (hK _ ?_); clear hK K; simp only [thenQ, blockQ]
    refine AW.ret ?_
    simp only [blockQ, thenQ, bR, Nat.reduceEqDiff, reduceIte, Int.reduceBNe, Int.reduceBEq]
    rw [okPlaces, all_true hi.2]
  have hlt : i < l.length := by simpa using h
  have bad : placeAt l i = false → okPlaces l = false := fun h => all_false i hlt h
  refine AW.skip ?_; simp only [thenQ, blockQ, reduceIte, Nat.reduceEqDiff]
  refine AW.seq (AW.block ?_)
  refine AW.seq (AW.reg cd71_3 fun K hK => ?_)
  simp only [g71_3, bR, Nat.reduceEqDiff, reduceIte, Int.reduceBNe, Int.reduceBEq]
  simp only [typR, useR, okR, isE_getD hlt, bR, Nat.reduceEqDiff, reduceIte, Int.reduceBNe, Int.reduceBEq]
  refine .done (hK _ ?_); clear hK K; simp only [thenQ, blockQ]
  refine AW.seq (AW.reg cd71_4 fun K hK => ?_)
  simp only [g71_4, bR, Nat.reduceEqDiff, reduceIte, Int.reduceBNe, Int.reduceBEq]
  try simp only [typR, useR, okR, e_fin, bR, Nat.reduceEqDiff, reduceIte, Int.reduceBNe, Int.reduceBEq]
  refine .flat _ (F89 (l.getD i 0) 0 5) rfl ?_
  generalize hr : inR 0 5 (l.getD i 0) = br
  cases br
  · try simp only [typR, useR, okR, e_fin, bR, Nat.reduceEqDiff, reduceIte, Int.reduceBNe, Int.reduceBEq]
    refine .done (hK _ ?_); clear hK K; simp only [thenQ, blockQ]
    refine AW.ite ?_
    simp only [condQ, bR, Nat.reduceEqDiff, reduceIte, Int.reduceBNe, Int.reduceBEq]
    refine ⟨fun h => ?_, fun h => ?_⟩
    · refine AW.seq (AW.reg cd71_5 fun K hK => ?_)
      simp only [g71_5, bR, Nat.reduceEqDiff, reduceIte, Int.reduceBNe, Int.reduceBEq]
      refine .done (hK _ ?_); clear hK K; simp only [thenQ, blockQ]
      refine AW.ret ?_
      simp only [blockQ, thenQ, bR, Nat.reduceEqDiff, reduceIte, Int.reduceBNe, Int.reduceBEq]
      rw [bad (by simp only [placeAt, hr, Bool.false_and])]
    · cases h
  try simp only [typR, useR, okR, e_fin, bR, Nat.reduceEqDiff, reduceIte, Int.reduceBNe, Int.reduceBEq]
  generalize hz : decide (0 < (i : Int)) = bz
  cases bz
  · have hz' : i = 0 := by simp at hz; omega
    try simp only [typR, useR, okR, e_fin, bR, Nat.reduceEqDiff, reduceIte, Int.reduceBNe, Int.reduceBEq]
    refine .done (hK _ ?_); clear hK K; simp only [thenQ, blockQ]
    refine AW.ite ?_
    simp only [condQ, bR, Nat.reduceEqDiff, reduceIte, Int.reduceBNe, Int.reduceBEq]
    refine ⟨fun h => ?_, fun h => ?_⟩
    · cases h
    refine AW.skip ?_; simp only [thenQ, blockQ, reduceIte, Nat.reduceEqDiff]
    refine AW.reg cd71_6 fun K hK => ?_
    simp only [g71_6, bR, Nat.reduceEqDiff, reduceIte, Int.reduceBNe, Int.reduceBEq]
    refine .done (hK _ ?_); clear hK K; simp only [thenQ, blockQ]
    refine ⟨i + 1, ⟨by omega, fun k hk' => ?_⟩, by omega, ?_⟩
    · by_cases hki : k = i
      · rw [hki, placeAt, hr]; simp [hz']
      · exact hi.2 k (by omega)
    · rw [wrap_id _ (by omega) (by omega)]
      refine Sub.of_lists ?_ ?_ ?_ ?_ <;> simp [subT, subO, onlyT, onlyO, isIn, look_cons, lookO_cons, lookO_nil, AV.only, AV.onlys, AO.only, onlys_map, onlys_append, e_only, e_int, e_bool]
  · have hpos : 0 < i := by simpa using hz
    have hpl : i - 1 < l.length := by omega
    have hpred : IntKind.i64.wrap ((i : Int) - 1) = ((i - 1 : Nat) : Int) := by rw [wrap_id _ (by omega) (by omega)]; omega
    simp only [typR, useR, okR, hpred, isE_getD hpl, isE_getD hlt, bR, Nat.reduceEqDiff, reduceIte, Int.reduceBNe, Int.reduceBEq]
    refine .done (hK _ ?_); clear hK K; simp only [thenQ, blockQ]
    refine AW.ite ?_
    simp only [condQ, bR, Nat.reduceEqDiff, reduceIte, Int.reduceBNe, Int.reduceBEq]
    refine ⟨fun h => ?_, fun h => ?_⟩
    · refine AW.seq (AW.reg cd71_5 fun K hK => ?_)
      simp only [g71_5, bR, Nat.reduceEqDiff, reduceIte, Int.reduceBNe, Int.reduceBEq]
      refine .done (hK _ ?_); clear hK K; simp only [thenQ, blockQ]
      refine AW.ret ?_
      simp only [blockQ, thenQ, bR, Nat.reduceEqDiff, reduceIte, Int.reduceBNe, Int.reduceBEq]
      have : (i == 0 || decide (l.getD (i - 1) 0 < l.getD i 0)) = false := by
        have h1 : l.getD i 0 ≤ l.getD (i - 1) 0 := of_decide_eq_true h
        have h2 : ¬ (l.getD (i - 1) 0 < l.getD i 0) := by omega
        have h3 : ¬ i = 0 := by omega
        simp only [decide_eq_false h2, Bool.or_false, beq_eq_false_iff_ne, ne_eq, h3, not_false_eq_true]
      rw [bad (by simp only [placeAt, this, Bool.and_false])]
    have hprev : (i == 0 || decide (l.getD (i - 1) 0 < l.getD i 0)) = true := by
      have h1 : ¬ (l.getD i 0 ≤ l.getD (i - 1) 0) := of_decide_eq_false h
      have h2 : l.getD (i - 1) 0 < l.getD i 0 := by omega
      simp only [decide_eq_true h2, Bool.or_true]
    refine AW.skip ?_; simp only [thenQ, blockQ, reduceIte, Nat.reduceEqDiff]
    refine AW.reg cd71_6 fun K hK => ?_
    simp only [g71_6, bR, Nat.reduceEqDiff, reduceIte, Int.reduceBNe, Int.reduceBEq]
    refine .done (hK _ ?_); clear hK K; simp only [thenQ, blockQ]
    refine ⟨i + 1, ⟨by omega, fun k hk' => ?_⟩, by omega, ?_⟩
    · by_cases hki : k = i
      · rw [hki, placeAt, hr, hprev]; rfl
      · exact hi.2 k (by omega)
    · rw [wrap_id _ (by omega) (by omega)]
      refine Sub.of_lists ?_ ?_ ?_ ?_ <;> simp [subT, subO, onlyT, onlyO, isIn, look_cons, lookO_cons, lookO_nil, AV.only, AV.onlys, AO.only, onlys_map, onlys_append, e_only, e_int, e_bool]

theorem F81 (w : Int) (h0 : 0 ≤ w) (h1 : w ≤ 31) : Ctr Try.prog 81 [enc w] (enc (members w 5)) := by
  refine Ctr.mk' Try.func81 ca81 cc81 cr81 (Nat.le_of_ble_eq_true rfl) (fun hwf W0 D0 E1 => ?_)
  simp only [c81, r81, idx, Nat.zero_add, Nat.reduceAdd]
  refine AW.seq (AW.reg cd81_0 fun K hK => ?_)
  simp only [g81_0, bR, Nat.reduceEqDiff, reduceIte, Int.reduceBNe, Int.reduceBEq]
  refine .done (hK _ ?_); clear hK K; simp only [thenQ, blockQ]
  refine AW.seq (AW.reg cd81_1 fun K hK => ?_)
  simp only [g81_1, bR, Nat.reduceEqDiff, reduceIte, Int.reduceBNe, Int.reduceBEq]
  refine .done (hK _ ?_); clear hK K; simp only [thenQ, blockQ]
  refine AW.seq ?_
  refine AW.seq (AW.reg cd81_2 fun K hK => ?_)
  simp only [g81_2, bR, Nat.reduceEqDiff, reduceIte, Int.reduceBNe, Int.reduceBEq]
  refine .done (hK _ ?_); clear hK K; simp only [thenQ, blockQ]
  refine AW.block (AW.loop (fun i : Nat => mkA [(0, .int .i64 w), (3, .own 3 (members w i).length), (5, .int .i64 i)] [(3, .row 3 1 ((members w i).map enc))]) (fun i => i ≤ 5) (fun i => 5 - i) 0 (by omega) ?_ (fun i hi => ?_))
  · refine Sub.adoptL 3 3 3 1 1 ?_ ?_ ?_
    · simp only [absR, Nat.reduceEqDiff, reduceIte]
    · simp only [absR]
    · simp only [members, List.map_nil, List.length_nil]
      refine Sub.of_lists ?_ ?_ ?_ ?_ <;> simp [subT, subO, onlyT, onlyO, isIn, look_cons, lookO_cons, lookO_nil, AV.only, AV.onlys, AO.only, onlys_map, onlys_append, e_only, e_int, e_bool]
  refine AW.seq (AW.reg cd81_3 fun K hK => ?_)
  simp only [g81_3, bR, Nat.reduceEqDiff, reduceIte, Int.reduceBNe, Int.reduceBEq]
  refine .done (hK _ ?_); clear hK K; simp only [thenQ, blockQ]
  refine AW.seq ?_
  refine AW.ite ?_
  simp only [condQ, bR, Nat.reduceEqDiff, reduceIte, Int.reduceBNe, Int.reduceBEq]
  refine ⟨fun h => ?_, fun h => ?_⟩
  · have hlt : i < 5 := by simp at h; omega
    have hml := members_le w i
    refine AW.skip ?_; simp only [thenQ, blockQ, reduceIte, Nat.reduceEqDiff]
    refine AW.seq (AW.block ?_)
    refine AW.seq (AW.reg cd81_4 fun K hK => ?_)
    simp only [g81_4, bR, Nat.reduceEqDiff, reduceIte, Int.reduceBNe, Int.reduceBEq]
    refine .done (hK _ ?_); clear hK K; simp only [thenQ, blockQ]
    refine AW.seq ?_
    refine AW.reg cd81_5 fun K hK => ?_
    simp only [g81_5, bR, Nat.reduceEqDiff, reduceIte, Int.reduceBNe, Int.reduceBEq]
    refine .flat _ (F110 w i) rfl ?_
    simp only [has_bit w h0 h1 i hlt]
    try simp only [typR, useR, okR, e_fin, bR, Nat.reduceEqDiff, reduceIte, Int.reduceBNe, Int.reduceBEq]
    refine .done (hK _ ?_); clear hK K; simp only [thenQ, blockQ]
    refine AW.ite ?_
    simp only [condQ, bR, Nat.reduceEqDiff, reduceIte, Int.reduceBNe, Int.reduceBEq]
    refine ⟨fun h => ?_, fun h => ?_⟩
    · have hb : bit w i = true := h
      refine AW.reg cd81_6 fun K hK => ?_
      simp only [g81_6, bR, Nat.reduceEqDiff, reduceIte, Int.reduceBNe, Int.reduceBEq]
      rw [appR3_enc 3 1 8 3 rfl rfl (by simp) (by simp [maxLen]; omega) (by simp; omega)]
      simp only [bR, Nat.reduceEqDiff, reduceIte, Int.reduceBNe, Int.reduceBEq]
      refine .done (hK _ ?_); clear hK K; simp only [thenQ, blockQ]
      refine AW.reg cd81_7 fun K hK => ?_
      simp only [g81_7, bR, Nat.reduceEqDiff, reduceIte, Int.reduceBNe, Int.reduceBEq]
      refine .done (hK _ ?_); clear hK K; simp only [thenQ, blockQ]
      refine ⟨i + 1, by omega, by omega, ?_⟩
      rw [wrap_id _ (by omega) (by omega)]
      simp only [members, hb, reduceIte]
      refine Sub.of_lists ?_ ?_ ?_ ?_ <;> simp [subT, subO, onlyT, onlyO, isIn, look_cons, lookO_cons, lookO_nil, AV.only, AV.onlys, AO.only, onlys_map, onlys_append, e_only, e_int, e_bool]
    · have hb : bit w i = false := h
      refine AW.skip ?_; simp only [thenQ, blockQ, reduceIte, Nat.reduceEqDiff]
      refine AW.reg cd81_7 fun K hK => ?_
      simp only [g81_7, bR, Nat.reduceEqDiff, reduceIte, Int.reduceBNe, Int.reduceBEq]
      refine .done (hK _ ?_); clear hK K; simp only [thenQ, blockQ]
      refine ⟨i + 1, by omega, by omega, ?_⟩
      rw [wrap_id _ (by omega) (by omega)]
      simp only [members, hb, reduceIte, Bool.false_eq_true, List.append_nil]
      refine Sub.of_lists ?_ ?_ ?_ ?_ <;> simp [subT, subO, onlyT, onlyO, isIn, look_cons, lookO_cons, lookO_nil, AV.only, AV.onlys, AO.only, onlys_map, onlys_append, e_only, e_int, e_bool]
  · have hge : i = 5 := by simp at h; omega
    subst hge
    refine AW.exit ?_; simp only [thenQ, blockQ, reduceIte, Nat.reduceEqDiff]
    refine AW.seq (AW.reg cd81_8 fun K hK => ?_)
    simp only [g81_8, bR, Nat.reduceEqDiff, reduceIte, Int.reduceBNe, Int.reduceBEq]
    refine .done (hK _ ?_); clear hK K; simp only [thenQ, blockQ]
    refine AW.ret ?_
    simp only [blockQ, thenQ, bR, Nat.reduceEqDiff, reduceIte, Int.reduceBNe, Int.reduceBEq]

end Go.Proofs.Ytkjkbpgdpnapfaa

/-
  FUNCTIONS BY CONTRACT: of mark: settles; of the law: its book.
-/
namespace Go.Proofs.Ytkjkbpgdpnapfaa
open Go Go.Abs
open Go.Abs.Enc (enc)

def a6 (a b c d e f : Int) : Arr 6 Int := ⟨[a, b, c, d, e, f], rfl⟩
def a5 (a b c d e : Int) : Arr 5 Int := ⟨[a, b, c, d, e], rfl⟩
def bookM : Marks := ⟨a5 1 3 4 24 24, 0, [⟨1, a6 0 0 0 0 0 0⟩, ⟨2, a6 2 0 0 0 0 0⟩, ⟨3, a6 3 0 0 0 0 2⟩]⟩

theorem F107 (w : Arr 5 Int) (g h : Given) (k : Nat) (hk : k < 6) (hg : okMark g.mark = true) (hh : okMark h.mark = true) : Ctr Try.prog 107 (enc (k : Int) :: [.ref (enc w), .ref (enc g), .ref (enc h)]) (enc (apartAt w g.mark h.mark k)) := by
  refine Ctr.mk' Try.func107 ca107 cc107 cr107 (Nat.le_of_ble_eq_true rfl) (fun hwf W0 D0 E1 => ?_)
  simp only [c107, r107, idx, Nat.zero_add, Nat.reduceAdd]
  have h1 := okMark_at hg hk
  have h2 := okMark_at hh hk
  refine AW.seq (AW.reg cd107_0 fun K hK => ?_)
  simp only [g107_0, bR, Nat.reduceEqDiff, reduceIte, Int.reduceBNe, Int.reduceBEq]
  refine .done (hK _ ?_); clear hK K; simp only [thenQ, blockQ]
  refine AW.seq (AW.reg cd107_1 fun K hK => ?_)
  simp only [g107_1, bR, Nat.reduceEqDiff, reduceIte, Int.reduceBNe, Int.reduceBEq]
  try simp only [typR, useR, okR, e_fin, bR, Nat.reduceEqDiff, reduceIte, Int.reduceBNe, Int.reduceBEq]
  refine .flat _ (F77 w g.mark k hk h1.1 h1.2) rfl ?_
  try simp only [typR, useR, okR, e_fin, bR, Nat.reduceEqDiff, reduceIte, Int.reduceBNe, Int.reduceBEq]
  refine .flat _ (F77 w h.mark k hk h2.1 h2.2) rfl ?_
  try simp only [typR, useR, okR, e_fin, bR, Nat.reduceEqDiff, reduceIte, Int.reduceBNe, Int.reduceBEq]
  refine .flat _ (F78 _ _) rfl ?_
  try simp only [typR, useR, okR, e_fin, bR, Nat.reduceEqDiff, reduceIte, Int.reduceBNe, Int.reduceBEq]
  refine .done (hK _ ?_); clear hK K; simp only [thenQ, blockQ]
  refine AW.ret ?_
  simp only [blockQ, thenQ, bR, Nat.reduceEqDiff, reduceIte, Int.reduceBNe, Int.reduceBEq]
  simp only [apartAt, bne, Bool.not_not]

theorem bld5 (a b c d e : Int) : setParts [.int .i64 0, .int .i64 0, .int .i64 0, .int .i64 0, .int .i64 0] [(0, .int .i64 a), (1, .int .i64 b), (2, .int .i64 c), (3, .int .i64 d), (4, .int .i64 e)] = some [.int .i64 a, .int .i64 b, .int .i64 c, .int .i64 d, .int .i64 e] := rfl
theorem bld6 (a b c d e f : Int) : setParts [.int .i64 0, .int .i64 0, .int .i64 0, .int .i64 0, .int .i64 0, .int .i64 0] [(0, .int .i64 a), (1, .int .i64 b), (2, .int .i64 c), (3, .int .i64 d), (4, .int .i64 e), (5, .int .i64 f)] = some [.int .i64 a, .int .i64 b, .int .i64 c, .int .i64 d, .int .i64 e, .int .i64 f] := rfl
theorem e_a5 (a b c d e : Int) : AV.agg [.int .i64 a, .int .i64 b, .int .i64 c, .int .i64 d, .int .i64 e] = enc (a5 a b c d e) := rfl
theorem e_a6 (a b c d e f : Int) : AV.agg [.int .i64 a, .int .i64 b, .int .i64 c, .int .i64 d, .int .i64 e, .int .i64 f] = enc (a6 a b c d e f) := rfl
theorem bldG0 (o : Int) : setParts [.int .i64 0, enc (a6 0 0 0 0 0 0)] [(0, .int .i64 o)] = some [.int .i64 o, enc (a6 0 0 0 0 0 0)] := rfl
theorem setParts_cons {zs : List AV} {i : Nat} {v z : AV} {rest : List (Nat × AV)} (h : zs[i]? = some z) (h1 : v.isVal = true) (h2 : v.size = z.size) : setParts zs ((i, v) :: rest) = setParts (zs.set i v) rest := by
  simp only [setParts, h]; rw [if_pos ⟨h1, h2⟩]
theorem bldG (o : Int) (m : Arr 6 Int) : setParts [.int .i64 0, enc (a6 0 0 0 0 0 0)] [(0, .int .i64 o), (1, enc m)] = some [.int .i64 o, enc m] := by
  have h2 : ((enc m : AV).isVal = true ∧ (enc m : AV).size = (enc (a6 0 0 0 0 0 0)).size) := ⟨e_isVal _, by rw [e_size, e_size]⟩
  have h1 : ((AV.int .i64 o).isVal = true ∧ (AV.int .i64 o).size = (AV.int .i64 0).size) := ⟨rfl, rfl⟩
  rw [setParts_cons rfl h1.1 h1.2, setParts_cons rfl h2.1 h2.2]; rfl
theorem bldM (w : Arr 5 Int) (l : List Given) : setParts [enc (a5 0 0 0 0 0), .int .i64 0, .nils 7] [(0, enc w), (2, enc l)] = some [enc w, .int .i64 0, enc l] := by
  have h1 : ((enc w : AV).isVal = true ∧ (enc w : AV).size = (enc (a5 0 0 0 0 0)).size) := ⟨e_isVal _, by rw [e_size, e_size]⟩
  have h2 : ((enc l : AV).isVal = true ∧ (enc l : AV).size = (AV.nils 7).size) := ⟨e_isVal _, by rw [e_size]; rfl⟩
  rw [setParts_cons rfl h1.1 h1.2, setParts_cons rfl h2.1 h2.2]; rfl
theorem e_G (o : Int) (m : Arr 6 Int) : AV.agg [.int .i64 o, enc m] = enc (⟨o, m⟩ : Given) := rfl
theorem e_M (w : Arr 5 Int) (n : Int) (l : List Given) : AV.agg [enc w, .int .i64 n, enc l] = enc (⟨w, n, l⟩ : Marks) := rfl
theorem bsG3 (a b c : Given) : bsE 7 (some [enc a, enc b, enc c]) = some (enc [a, b, c]) := (bsE_enc (α := Given) 7 rfl : bsE 7 (some ([a, b, c].map enc)) = _)
theorem stR3_M {A : AState} {n : Nat} {b : AV} {v u : Marks} {rest : List G} : stR3 A (some 7) n [] b (enc v) rest (some (enc u)) = aops rest (A.setO n (.box (enc v))) := by
  rw [stR3_ok (e_isVal _) (by rw [e_okS]; rfl) ((e_sh _).trans (e_sh _).symm), setAt_nil]
theorem e_M0 : AV.agg [enc (a5 0 0 0 0 0), .int .i64 0, .nils 7] = AV.agg [enc (a5 0 0 0 0 0), .int .i64 0, .nils 7] := rfl

theorem F82 : Ctr Try.prog 82 [] (enc bookM) := by
  refine Ctr.mk' Try.func82 ca82 cc82 cr82 (Nat.le_of_ble_eq_true rfl) (fun hwf W0 D0 E1 => ?_)
  simp only [c82, r82, idx, Nat.zero_add, Nat.reduceAdd]
  refine AW.seq (AW.reg cd82_0 fun K hK => ?_)
  simp only [g82_0, bR, Nat.reduceEqDiff, reduceIte, Int.reduceBNe, Int.reduceBEq]
  refine .done (hK _ ?_); clear hK K; simp only [thenQ, blockQ]
  refine AW.seq (AW.reg cd82_1 fun K hK => ?_)
  simp only [g82_1, bR, Nat.reduceEqDiff, reduceIte, Int.reduceBNe, Int.reduceBEq]
  simp only [bld5, bld6, bldG0, bldG, bldM, bsG3, e_a5, e_a6, e_G, e_M, e_fin, bR, Nat.reduceEqDiff, reduceIte, Int.reduceBNe, Int.reduceBEq]
  rw [stR3_ok (e_isVal _) (by rw [e_okS]; rfl) ((e_sh _).trans rfl)]
  simp only [setAt_nil, bR, Nat.reduceEqDiff, reduceIte, Int.reduceBNe, Int.reduceBEq]
  refine .done (hK _ ?_); clear hK K; simp only [thenQ, blockQ]
  refine AW.ret ?_
  simp only [blockQ, thenQ, bR, Nat.reduceEqDiff, reduceIte, Int.reduceBNe, Int.reduceBEq]
  simp only [typR, e_fin, bR, Nat.reduceEqDiff, reduceIte, Int.reduceBNe, Int.reduceBEq]
  rfl

end Go.Proofs.Ytkjkbpgdpnapfaa

/-
  THE ABSTRACT LAYER, 24: a slice of the frame's own, taken as data; a nil slice taken as an empty one. Over any program.
-/
namespace Go.Abs
open Go Go.RowKit
open Enc (enc)

theorem Sub.free {ts : List (Nat × AV)} {os0 : List (Nat × AO)} (ns : List Nat) (d : Nat) {x y : AV} (hd : look ts d = x) (h : fin true (mkA ts (keepO ns os0)) x = some y) (ho : onlyO (fun n => !ns.contains n) (dropO ns os0)) :
    Sub (mkA ts os0) (mkA ((d, y) :: fgt ns ts) (dropO ns os0)) := by
  rintro c a w ⟨D, E, hs⟩
  obtain ⟨D1, E1, hs1, hw⟩ := hs.freeze ns ho
  have hu : Up (mkA ts (keepO ns os0)) (mkA ts os0) := fun n z hz => by
    simp only [mkA, lookO_keep] at hz ⊢
    split at hz
    · exact hz
    · cases hz
  have hx : x.isVal = true := by cases x <;> first | rfl | simp [fin] at h
  have hv := hs.tm d
  simp only [mkA] at hv
  rw [hd] at hv
  have h1 : rvs w D E [x] [a.tmps.getD d undef] := rvs_of [x] _ (.cons hv .nil) (by intro z hz; simp only [List.mem_singleton] at hz; subst hz; exact hx)
  have h2 := fin_rvs (E' := E1) hs hu hw [x] [y] _ h1 (by simp only [fins, h])
  have h3 : rv w D1 E1 y (a.tmps.getD d undef) := by
    simp only [rvs] at h2
    obtain ⟨v', rest, cs, e, k1, k2, _⟩ := h2
    simp only [List.cons.injEq] at e
    obtain ⟨e1, _⟩ := e
    rw [e1]
    exact mk_val k1 k2
  refine ⟨D1, E1, hs1.sz, hs1.defs, fun t => ?_, hs1.unch, hs1.dom, hs1.live, hs1.obj, hs1.sep, hs1.hist, hs1.nam, hs1.up, hs1.yok⟩
  simp only [mkA, look]
  split
  · rename_i ht; subst ht; exact h3
  · exact hs1.tm t

theorem Sub.freeL {ts ts' : List (Nat × AV)} {os0 os' : List (Nat × AO)} (ns : List Nat) (d : Nat) {x y : AV} (hd : look ts d = x) (h : fin true (mkA ts (keepO ns os0)) x = some y) (ho : onlyO (fun n => !ns.contains n) (dropO ns os0))
    (h1 : subT ((d, y) :: fgt ns ts) ts') (h2 : subO (dropO ns os0) os') (h3 : onlyT (isIn os') ts') (h4 : onlyO (isIn os') os') : Sub (mkA ts os0) (mkA ts' os') :=
  (Sub.free ns d hd h ho).trans (Sub.of_lists h1 h2 h3 h4)

/-- A part of the code, walked for itself. -/
theorem AW.via {c : Ctx} {Q : Exit → AState → Prop} {A : AState} {x : AC} (T : AState) (h1 : AW c x (thenQ (fun B => Sub B T) fun _ _ => False) A) (h2 : ∀ B, Sub B T → Q .normal B) : AW c x Q A :=
  h1.mono fun e B hq => by
    cases e <;> simp only [thenQ] at hq <;> first
      | exact h2 B hq
      | exact hq.elim

end Go.Abs

/-
  THE ABSTRACT LAYER, 25: arguments as the statements read them, taken as data. Over any program.
-/
namespace Go.Abs
open Go Go.RowKit
open Enc (enc)

/-- What is there may be read. -/
def allD (w : World) : Dom := fun b _ => b < w.heap.size

/-- What reads as this type is such data. -/
structure Opens (P : Program) (t : TypeId) (α : Type) [Enc α] : Prop where
  cells : P.cellsOf t = Enc.sz α
  pos : 0 < Enc.sz α
  opn : ∀ {H : Type} {enc0 : TypeId × Value → H} {w : World} {fuel : Nat} {cs : List Value} {x : DataW H × List MemPlace}, DataW.trod enc0 P w 0 (fun _ => true) true fuel t cs = some x → ∃ a : α, rc w (allD w) E0 (enc a) cs

theorem opens_int {P : Program} {t : TypeId} (ht : P.underlying t = some (.int .i64)) (hc : P.cellsOf t = 1) : Opens P t Int :=
  ⟨hc, by decide, fun h => by
    obtain ⟨n, rfl, _, hw⟩ := DataW.trod_int ht h
    refine ⟨n, ?_⟩
    rw [e_int, rc]
    simp only [Lit.wf, Bool.and_eq_true, decide_eq_true_eq] at hw
    exact ⟨rfl, hw.1, hw.2⟩⟩

theorem opens_bool {P : Program} {t : TypeId} (ht : P.underlying t = some .bool) (hc : P.cellsOf t = 1) : Opens P t Bool :=
  ⟨hc, by decide, fun h => by
    obtain ⟨b, rfl, _⟩ := DataW.trod_bool ht h
    exact ⟨b, by simp only [e_bool, rc]⟩⟩

theorem chunks {α : Type} [Enc α] {w : World} {D : Dom} (c : Nat) : ∀ (n : Nat) (cs : List Value), cs.length = n * c → (∀ i, i < n → ∃ a : α, rc w D E0 (enc a) ((cs.drop (i * c)).take c)) → ∃ l : List α, l.length = n ∧ rcs w D E0 (l.map enc) cs
  | 0, cs, hl, _ => ⟨[], rfl, by simp only [Nat.zero_mul, List.length_eq_zero_iff] at hl; subst hl; simp [rcs]⟩
  | n + 1, cs, hl, h => by
    obtain ⟨a, ha⟩ := h 0 (by omega)
    simp only [Nat.zero_mul, List.drop_zero] at ha
    obtain ⟨l, h1, h2⟩ := chunks c n (cs.drop c) (by rw [List.length_drop, hl, Nat.succ_mul]; omega) (fun i hi => by
      obtain ⟨b, hb⟩ := h (i + 1) (by omega)
      refine ⟨b, ?_⟩
      rw [List.drop_drop]
      rwa [Nat.succ_mul, Nat.add_comm] at hb)
    refine ⟨a :: l, by simp [h1], ?_⟩
    simp only [List.map_cons, rcs]
    exact ⟨cs.take c, cs.drop c, (List.take_append_drop c cs).symm, ha, h2⟩

theorem trod_arr {H : Type} {enc0 : TypeId × Value → H} {P : Program} {w : World} {base : Nat} {spare : Nat → Bool} {held : Bool} {fuel n : Nat} {t e : TypeId} {cs : List Value} {x : DataW H × List MemPlace} (ht : P.underlying t = some (.array n e)) (h : DataW.trod enc0 P w base spare held fuel t cs = some x) :
    ∃ (xs : List (DataW H × List MemPlace)) (m : Nat), cs.length = P.cellsOf t ∧ xs.length = n ∧ ∀ (i : Nat), i < n → DataW.trod enc0 P w base spare held m e ((cs.drop (i * P.cellsOf e)).take (P.cellsOf e)) = xs[i]? := by
  cases fuel with
  | zero => simp [DataW.trod] at h
  | succ m =>
    unfold DataW.trod at h
    rw [ht] at h
    split at h <;> simp_all
    obtain ⟨hl, xs, hp, hd⟩ := h
    exact ⟨xs, by simpa using mapM_some_length hp, m, fun i hi => mapM_some_get hp i i (by simp [hi])⟩

theorem opens_arr {P : Program} {t e : TypeId} {n : Nat} {α : Type} [Enc α] (ht : P.underlying t = some (.array n e)) (he : Opens P e α) (hc : P.cellsOf t = n * Enc.sz α) (hn : 0 < n) : Opens P t (Arr n α) :=
  ⟨hc, Nat.mul_pos hn he.pos, fun {H enc0 w fuel cs x} h => by
    obtain ⟨xs, m, hl, hx, hp⟩ := trod_arr ht h
    obtain ⟨l, h1, h2⟩ := chunks (α := α) (w := w) (D := allD w) (Enc.sz α) n cs (by rw [hl, hc]) (fun i hi => by
      have h3 := hp i hi
      rw [he.cells, List.getElem?_eq_getElem (by omega)] at h3
      exact he.opn h3)
    refine ⟨⟨l, h1⟩, ?_⟩
    show rc w (allD w) E0 (.agg (l.map enc)) cs
    simp only [rc]
    exact h2⟩

theorem addr_add_add (a : Addr) (i j : Nat) : (a.add i).add j = a.add (i + j) := by
  unfold Addr.add
  by_cases hi : i = 0 <;> by_cases hj : j = 0 <;> simp [hi, hj, Nat.add_assoc]

theorem opens_list {P : Program} {t e : TypeId} {α : Type} [Enc α] (ht : P.underlying t = some (.slice e)) (he : Opens P e α) (hc : P.cellsOf t = 1) : Opens P t (List α) :=
  ⟨hc, by rw [e_szList]; exact Nat.one_pos, fun {H enc0 w fuel cs x} h => by
    rcases DataW.trod_slice ht h with ⟨rfl, _⟩ | ⟨a, len, cap, elems, rest, n, _, rfl, _, hb, hl, hm, hlen, hel, _⟩
    · refine ⟨[], ?_⟩
      simp only [e_list, List.map_nil]
      rw [rc]
      exact ⟨none, 0, rfl, Nat.le_refl _, by decide, .inl rfl, by simp⟩
    · have key : ∀ k, k ≤ len → ∃ (l : List α) (cs' : List Value), l.length = k ∧ rcs w (allD w) E0 (l.map enc) cs' ∧ cs'.length = k * Enc.sz α ∧ ∀ j v, cs'[j]? = some v → w.cell? (a.add j) = some v := by
        intro k
        induction k with
        | zero => exact fun _ => ⟨[], [], rfl, by simp [rcs], by simp, by simp⟩
        | succ k ih =>
          intro hk
          obtain ⟨l, cs', h1, h2, h3, h4⟩ := ih (by omega)
          have h5 := hel k (by omega)
          have h6 : k < elems.length := by omega
          rw [List.getElem?_eq_getElem h6] at h5
          obtain ⟨ce, h7, h8⟩ := Option.bind_eq_some_iff.1 h5
          obtain ⟨y, hy⟩ := he.opn h8
          rw [he.cells] at h7
          obtain ⟨_, h9, h10⟩ := World.cells?_some h7
          refine ⟨l ++ [y], cs' ++ ce, by simp [h1], ?_, by rw [List.length_append, h3, h9, Nat.succ_mul], fun j v hj => ?_⟩
          · rw [List.map_append]
            refine rcs_append _ _ _ _ h2 ?_
            simp only [List.map_cons, List.map_nil, rcs]
            exact ⟨ce, [], by simp, hy, rfl⟩
          · rcases Nat.lt_or_ge j cs'.length with hlt | hge
            · rw [List.getElem?_append_left hlt] at hj
              exact h4 j v hj
            · rw [List.getElem?_append_right hge] at hj
              have hlt : j - cs'.length < Enc.sz α := by
                have := (List.getElem?_eq_some_iff.1 hj).1
                omega
              have := h10 (j - cs'.length) hlt
              rw [addr_add_add, ← h3, Nat.add_sub_cancel' hge] at this
              rw [this]; exact hj
      obtain ⟨l, cs', h1, h2, h3, h4⟩ := key len (Nat.le_refl _)
      refine ⟨l, ?_⟩
      simp only [e_list, rc, List.length_map]
      refine ⟨some a, cap, by rw [h1], by omega, hm, ?_, all_sizes l⟩
      by_cases hz : len = 0
      · left; have : l = [] := List.length_eq_zero_iff.1 (by omega); rw [this]; rfl
      right
      have hpos : 0 < cs'.length := by rw [h3]; exact Nat.mul_pos (Nat.pos_of_ne_zero hz) he.pos
      have h0 := h4 0 cs'[0] (List.getElem?_eq_getElem hpos)
      have hsp : a.spot = none := by
        simp only [Addr.add, if_true] at h0
        unfold World.cell? at h0
        split at h0
        · split at h0
          · cases h0
          · rename_i hs; cases hh : a.spot <;> simp_all
        · cases h0
      have ha : ∀ j, a.add j = ⟨a.block, a.off + j, none⟩ := fun j => by
        unfold Addr.add
        split
        · rename_i hj; subst hj; cases a; simp_all
        · rfl
      refine ⟨a.block, a.off, cs', by cases a; simp_all, fun j v hj => ?_, h2⟩
      have h5 := h4 j v hj
      rw [ha] at h5
      refine ⟨h5, ?_⟩
      show (⟨a.block, a.off + j, none⟩ : Addr).block < _
      exact World.block_lt_of_cell? w _ h5⟩

end Go.Abs

/-
  THE ABSTRACT LAYER, 26: structs among the arguments; from a law's contract to what a statement asks of it. Over any program.
-/
namespace Go.Abs
open Go Go.RowKit Go.ChangeShapes
open Enc (enc)

/-- The type is a struct with fields of these types at these places. -/
def isSt (P : Program) (t : TypeId) (l : List (TypeId × Nat)) : Bool := match P.underlying t with
  | some (.struct fs) => fs.toList.map (fun f => (f.type, f.offset)) == l
  | _ => false
def isAr (P : Program) (t : TypeId) (n : Nat) (e : TypeId) : Bool := match P.underlying t with
  | some (.array n' e') => n' == n && e' == e
  | _ => false
theorem isAr_spec {P : Program} {t : TypeId} {n : Nat} {e : TypeId} (h : isAr P t n e = true) : P.underlying t = some (.array n e) := by
  unfold isAr at h
  split at h
  · rename_i n' e' ht
    simp only [Bool.and_eq_true, beq_iff_eq] at h
    rw [ht, h.1, h.2]
  · cases h
theorem isSt_spec {P : Program} {t : TypeId} {l : List (TypeId × Nat)} (h : isSt P t l = true) : ∃ fs, P.underlying t = some (.struct fs) ∧ fs.toList.map (fun f => (f.type, f.offset)) = l := by
  unfold isSt at h
  split at h
  · rename_i fs ht
    exact ⟨fs, ht, by simpa using h⟩
  · cases h

theorem st_fields {H : Type} {enc0 : TypeId × Value → H} {P : Program} {w : World} {fuel : Nat} {t : TypeId} {l : List (TypeId × Nat)} {cs : List Value} {x : DataW H × List MemPlace} (ht : isSt P t l = true) (h : DataW.trod enc0 P w 0 (fun _ => true) true fuel t cs = some x) :
    cs.length = P.cellsOf t ∧ ∃ m : Nat, ∀ (i : Nat) (u : TypeId) (o : Nat), l[i]? = some (u, o) → ∃ y, DataW.trod enc0 P w 0 (fun _ => true) true m u ((cs.drop o).take (P.cellsOf u)) = some y := by
  obtain ⟨fs, h1, h2⟩ := isSt_spec ht
  obtain ⟨xs, m, _, _, h3, h4, h5⟩ := DataW.trod_struct h1 h
  refine ⟨h3, m, fun i u o hi => ?_⟩
  rw [← h2] at hi
  simp only [List.getElem?_map, Option.map_eq_some_iff, Prod.mk.injEq] at hi
  obtain ⟨f, hf, rfl, rfl⟩ := hi
  have hf' : fs[i]? = some f := by simpa using hf
  have h6 := h5 i f hf'
  have hlt : i < fs.size := (Array.getElem?_eq_some_iff.1 hf').1
  rw [List.getElem?_eq_getElem (by omega)] at h6
  exact ⟨_, h6⟩

section
variable {P : Program} {t : TypeId} {α β γ : Type} [Enc α] [Enc β] [Enc γ] {H : Type} {enc0 : TypeId × Value → H} {w : World} {fuel : Nat} {cs : List Value} {x : DataW H × List MemPlace}

theorem opens_st2 {u0 u1 : TypeId} (ht : isSt P t [(u0, 0), (u1, Enc.sz α)] = true) (h0 : Opens P u0 α) (h1 : Opens P u1 β) (hc : P.cellsOf t = Enc.sz α + Enc.sz β) (h : DataW.trod enc0 P w 0 (fun _ => true) true fuel t cs = some x) :
    ∃ (a : α) (b : β), rc w (allD w) E0 (.agg [enc a, enc b]) cs := by
  obtain ⟨hl, m, hf⟩ := st_fields ht h
  obtain ⟨y0, k0⟩ := hf 0 u0 0 rfl
  obtain ⟨y1, k1⟩ := hf 1 u1 (Enc.sz α) rfl
  obtain ⟨a, ha⟩ := h0.opn k0
  obtain ⟨b, hb⟩ := h1.opn k1
  rw [h0.cells, List.drop_zero] at ha
  rw [h1.cells, List.take_of_length_le (by rw [List.length_drop]; omega)] at hb
  refine ⟨a, b, ?_⟩
  simp only [rc, rcs]
  exact ⟨_, _, (List.take_append_drop (Enc.sz α) cs).symm, ha, cs.drop (Enc.sz α), [], by simp, hb, rfl⟩

theorem opens_st3 {u0 u1 u2 : TypeId} (ht : isSt P t [(u0, 0), (u1, Enc.sz α), (u2, Enc.sz α + Enc.sz β)] = true) (h0 : Opens P u0 α) (h1 : Opens P u1 β) (h2 : Opens P u2 γ) (hc : P.cellsOf t = Enc.sz α + Enc.sz β + Enc.sz γ) (h : DataW.trod enc0 P w 0 (fun _ => true) true fuel t cs = some x) :
    ∃ (a : α) (b : β) (c : γ), rc w (allD w) E0 (.agg [enc a, enc b, enc c]) cs := by
  obtain ⟨hl, m, hf⟩ := st_fields ht h
  obtain ⟨y0, k0⟩ := hf 0 u0 0 rfl
  obtain ⟨y1, k1⟩ := hf 1 u1 (Enc.sz α) rfl
  obtain ⟨y2, k2⟩ := hf 2 u2 (Enc.sz α + Enc.sz β) rfl
  obtain ⟨a, ha⟩ := h0.opn k0
  obtain ⟨b, hb⟩ := h1.opn k1
  obtain ⟨c, hcc⟩ := h2.opn k2
  rw [h0.cells, List.drop_zero] at ha
  rw [h1.cells] at hb
  rw [h2.cells, List.take_of_length_le (by rw [List.length_drop]; omega)] at hcc
  refine ⟨a, b, c, ?_⟩
  simp only [rc, rcs]
  refine ⟨_, _, (List.take_append_drop (Enc.sz α) cs).symm, ha, (cs.drop (Enc.sz α)).take (Enc.sz β), (cs.drop (Enc.sz α)).drop (Enc.sz β), (List.take_append_drop _ _).symm, hb, (cs.drop (Enc.sz α)).drop (Enc.sz β), [], by simp, ?_, rfl⟩
  rw [List.drop_drop]; exact hcc

/-- An argument that is a struct or an array. -/
theorem open_arg {base : Nat} {v : Value} {d : DataW H} {p : List MemPlace} (ho : Opens P t α) (hA : Enc.isA α = true) (hst : (match P.underlying t with | some (.struct _) | some (.array _ _) => true | _ => false) = true) (hv : Value.okWide P w .any base t v)
    (h : DataW.Trod enc0 P w 0 (fun _ => true) true t v d p) : ∃ (a : α) (cs : List Value), isPack (enc a) v cs ∧ rc w (allD w) E0 (enc a) cs := by
  obtain ⟨fuel, h⟩ := h
  have hagg : ∃ cs, v = .agg cs := by
    unfold Value.okWide at hv
    split at hst
    · rename_i fs ht; rw [ht] at hv; obtain ⟨cs, h1, _⟩ := hv; exact ⟨cs, h1⟩
    · rename_i n e ht; rw [ht] at hv; obtain ⟨cs, h1, _⟩ := hv; exact ⟨cs, h1⟩
    · cases hst
  obtain ⟨cs, rfl⟩ := hagg
  have e : (Value.agg cs).cells.toList = cs.toList := rfl
  rw [e] at h
  obtain ⟨a, ha⟩ := ho.opn h
  exact ⟨a, cs.toList, by simp [isPack, Enc.agg, hA], ha⟩

/-- An argument that is one cell. -/
theorem open_cell {base : Nat} {v : Value} {d : DataW H} {p : List MemPlace} (ho : Opens P t α) (hA : Enc.isA α = false) (hst : (match P.underlying t with | some (.slice _) | some (.int _) | some .bool => true | _ => false) = true) (hv : Value.okWide P w .any base t v)
    (h : DataW.Trod enc0 P w 0 (fun _ => true) true t v d p) : ∃ (a : α) (cs : List Value), isPack (enc a) v cs ∧ rc w (allD w) E0 (enc a) cs := by
  obtain ⟨fuel, h⟩ := h
  have hone : v.cells.toList = [v] := by
    unfold Value.okWide at hv
    split at hst
    · rename_i e ht; rw [ht] at hv; simp only [Cell.okWide, ht] at hv; cases v <;> simp_all [Cell.ok, Value.cells]
    · rename_i e ht; rw [ht] at hv; simp only [Cell.okWide, ht] at hv; cases v <;> simp_all [Cell.ok, Value.cells]
    · rename_i ht; rw [ht] at hv; simp only [Cell.okWide, ht] at hv; cases v <;> simp_all [Cell.ok, Value.cells]
    · cases hst
  rw [hone] at h
  obtain ⟨a, ha⟩ := ho.opn h
  exact ⟨a, [v], by simp [isPack, Enc.agg, hA], ha⟩
end

/-- As the kit's law of what is as it was, with less asked of what is frozen: of the places that were read. -/
theorem post_same {H : Type} {enc0 : TypeId × Value → H} {P : Program} {f : Func} {s : ChangeSpec} {apart fresh handsOn again : Bool} {W W' : World} {args : Array Value} {v : Value} {ds gs : List (DataW H)} {before pa pv : List MemPlace}
    (hW : DataW.Whole enc0 P f.params.toList s.vars apart W args.toList ds gs before)
    (hres : ∀ (b : Nat) (sp : Nat → Bool) (hd : Bool), DataW.TrodAll enc0 P W' b sp hd f.resultTypes.toList (v.resultList f.resultTypes.size) (s.fn H (ds ++ gs)).results [])
    (hargs : ∀ sp : Nat → Bool, (∀ p ∈ before, sp p.block = true) → DataW.TrodAll enc0 P W' 0 sp true f.params.toList args.toList (s.fn H (ds ++ gs)).args pa)
    (hvars : ∀ sp : Nat → Bool, (∀ p ∈ before, sp p.block = true) → DataW.TrodVars enc0 P W' sp s.vars (s.fn H (ds ++ gs)).vars pv)
    (hps : before = pa ++ pv) (hb : Below W.heap.size W W')
    (hok : ∀ (j : Nat) (t : TypeId) (r : Value), f.resultTypes[j]? = some t → (v.resultList f.resultTypes.size)[j]? = some r → Value.okWide P W' .any 0 t r) :
    s.post enc0 P f apart fresh handsOn again W args v W' := by
  have hlt : ∀ p ∈ before, p.block < W.heap.size := fun p hp => by simpa using hW.lt p hp
  have hold : ∀ p ∈ before, (fun b => decide (b < W.heap.size)) p.block = true := fun p hp => by simpa using hlt p hp
  refine ⟨ds, gs, before, [], pa, pv, hW, hres _ _ _, hargs _ hold, hvars _ hold, World.keptBut_mono (fun p hp => ⟨hp, ?_⟩) (hb.frame (· ∈ before)), fun _ => ?_⟩
  · rw [hps, List.mem_append] at hp
    exact Or.inr hp
  · obtain ⟨_, _, _, _, _, hz, hn⟩ := hW
    refine ⟨hok, _, _, ([] ++ pa) ++ pv, ⟨[] ++ pa, pv, trodAll_append (hargs _ (fun _ _ => rfl)) (hres _ _ _), hvars _ (fun _ _ => rfl), rfl, ?_, ?_⟩, ?_⟩
    · intro b off hp
      have hp' : MemPlace.cell b off ∈ before := by rw [hps]; simpa using hp
      rw [hb.frozen (p := ⟨b, off, none⟩) (hlt _ hp')]
      exact hz b off hp'
    · intro ha
      have := hn ha
      rw [hps] at this
      simpa using this
    · intro p hp _
      rw [hps]
      simpa using hp

/-- **From a law's contract to what its statement asks of a call.** -/
theorem law_post {P : Program} {f : FuncId} {fn : Func} {s : ChangeSpec} {H : Type} {enc0 : TypeId × Value → H} {W : World} {ds gs : List (DataW H)} {before : List MemPlace} {xs : List AV} {tb : TypeId} {v0 v1 v2 : Value} {t0 t1 t2 : TypeId} {d0 d1 d2 : DataW H} {p0 p1 p2 : List MemPlace} {again handsOn fresh : Bool}
    (hl : laidOutB P = true) (hpar : fn.params.toList = [t0, t1, t2]) (hds : ds = [d0, d1, d2]) (hgs : gs = []) (hbef : before = p0 ++ p1 ++ p2)
    (hvars : s.vars = []) (hfn : s.fn H [d0, d1, d2] = { results := [.lit (.bool true)], args := [d0, d1, d2] }) (hres : fn.resultTypes = #[tb]) (htb : P.underlying tb = some .bool)
    (hW : DataW.Whole enc0 P fn.params.toList s.vars false W #[v0, v1, v2].toList ds gs before)
    (h0 : DataW.Trod enc0 P W 0 (fun _ => true) true t0 v0 d0 p0) (h1 : DataW.Trod enc0 P W 0 (fun _ => true) true t1 v1 d1 p1) (h2 : DataW.Trod enc0 P W 0 (fun _ => true) true t2 v2 d2 p2)
    (hr : ∀ t ∈ [t0, t1, t2], P.readableRec t = true ∧ t < P.types.size)
    (hctr : Ctr P f xs (enc true)) (hv : rvs W (allD W) E0 xs [v0, v1, v2]) :
    Calls P f #[v0, v1, v2] W fun e W' => ∃ v, e = .returned v ∧ s.post enc0 P fn false fresh handsOn again W #[v0, v1, v2] v W' := by
  subst hds hgs
  refine (hctr.2 W (allD W) [v0, v1, v2] (fun _ _ h => h) hv).mono fun e W' ⟨v, D', he, hrv, hb, _, _⟩ => ⟨v, he, ?_⟩
  have hvb : v = .bool true := rv_bool hrv
  subst hvb
  have hlt : ∀ x ∈ before, x.block < W.heap.size := fun x hx => by simpa using hW.lt x hx
  rw [hbef] at hlt
  refine post_same (pa := p0 ++ (p1 ++ p2)) (pv := []) hW (fun _ _ _ => ?_) (fun sp hsp => ?_) (fun _ _ => ?_) (by rw [hbef]; simp) hb ?_
  · simp only [List.append_nil, hfn, hres]
    exact trodAll_mk1 (shut_bool htb true)
  · simp only [List.append_nil, hfn, hpar]
    rw [hbef] at hsp
    have st : ∀ {t : TypeId} {v : Value} {d : DataW H} {p : List MemPlace}, t ∈ [t0, t1, t2] → DataW.Trod enc0 P W 0 (fun _ => true) true t v d p → (∀ x ∈ p, x ∈ p0 ++ p1 ++ p2) → DataW.Trod enc0 P W' 0 sp true t v d p := fun ht h hp =>
      WideElems.Trod_stays hl (hr _ ht).1 (hr _ ht).2 h (fun x hx => hb.same (hlt x (hp x hx))) (fun x hx => hsp x (hp x hx))
    exact trodAll_mk3 (st (by simp) h0 fun x hx => by simp [hx]) (st (by simp) h1 fun x hx => by simp [hx]) (st (by simp) h2 fun x hx => by simp [hx])
  · simp only [List.append_nil, hfn, hvars]
    rfl
  · intro j t r hj hv'
    rw [hres] at hj hv'
    match j, hj, hv' with
    | 0, hj, hv' =>
      simp [Value.resultList] at hj hv'
      subst hj; subst hv'
      simp [Value.okWide, htb, Cell.okWide, Cell.ok]

end Go.Abs

