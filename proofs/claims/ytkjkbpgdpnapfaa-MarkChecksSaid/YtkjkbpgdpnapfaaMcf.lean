/-
  THE LAWS' ARGUMENTS, TAKEN AS DATA: the types of the statements.
-/
import Derived.Test.YtkjkbpgdpnapfaaRows
import Derived.Test.YtkjkbpgdpnapfaaMce
set_option linter.unusedSimpArgs false
set_option linter.unusedVariables false
namespace Go.Proofs.Ytkjkbpgdpnapfaa
open Go Go.Abs Go.ChangeShapes Go.WideShapes Go.RowKit
open Go.Abs.Enc (enc)

theorem Try.own : ownKnob Try.prog.godebug = none := by kernel_rfl
theorem Try.laidOut : laidOutB Try.prog = true := by kernel_rfl

theorem oInt : Opens Try.prog 3 Int := opens_int (by kernel_rfl) (by kernel_rfl)
theorem oInts : Opens Try.prog 29 (List Int) := opens_list (by kernel_rfl) oInt (by kernel_rfl)
theorem oWear : Opens Try.prog 23 (Arr 5 Int) := opens_arr (isAr_spec (by kernel_rfl)) oInt (by kernel_rfl) (by decide)
theorem oReading : Opens Try.prog 28 (Arr 6 Int) := opens_arr (isAr_spec (by kernel_rfl)) oInt (by kernel_rfl) (by decide)
theorem oMark : Opens Try.prog 41 (Arr 6 Int) := opens_arr (isAr_spec (by kernel_rfl)) oInt (by kernel_rfl) (by decide)
theorem oGiven : Opens Try.prog 43 Given := ⟨by kernel_rfl, by decide, fun h => by
  obtain ⟨a, b, hab⟩ := opens_st2 (α := Int) (β := Arr 6 Int) (u0 := 3) (u1 := 41) (by kernel_rfl) oInt oMark (by kernel_rfl) h
  exact ⟨⟨a, b⟩, hab⟩⟩
theorem oGivens : Opens Try.prog 24 (List Given) := opens_list (by kernel_rfl) oGiven (by kernel_rfl)
theorem oMarks : Opens Try.prog 26 Marks := ⟨by kernel_rfl, by decide, fun h => by
  obtain ⟨a, b, c, hab⟩ := opens_st3 (α := Arr 5 Int) (β := Int) (γ := List Given) (u0 := 23) (u1 := 3) (u2 := 24) (by kernel_rfl) oWear oInt oGivens (by kernel_rfl) h
  exact ⟨⟨a, b, c⟩, hab⟩⟩

theorem rvs3 {w : World} {D : Dom} {E : Env} {x y z : AV} {a b c : Value} (hx : ∃ cs, isPack x a cs ∧ rc w D E x cs) (hy : ∃ cs, isPack y b cs ∧ rc w D E y cs) (hz : ∃ cs, isPack z c cs ∧ rc w D E z cs) : rvs w D E [x, y, z] [a, b, c] := by
  obtain ⟨c1, h1, h2⟩ := hx
  obtain ⟨c2, h3, h4⟩ := hy
  obtain ⟨c3, h5, h6⟩ := hz
  simp only [rvs]
  exact ⟨a, [b, c], c1, rfl, h1, h2, b, [c], c2, rfl, h3, h4, c, [], c3, rfl, h5, h6, rfl⟩

end Go.Proofs.Ytkjkbpgdpnapfaa

/-
  FUNCTIONS OF mark BY CONTRACT: settles.
-/
namespace Go.Proofs.Ytkjkbpgdpnapfaa
open Go Go.Abs
open Go.Abs.Enc (enc)

def gl (l : List Given) (i : Nat) : Given := l.getD i g0
theorem isE_gl {A : AState} {l : List Given} {i : Nat} (h : i < l.length) : isE A 7 (i : Int) (enc l) = some (.ref (enc (gl l i))) := by
  rw [isE_nat 7 h rfl]; simp [gl, List.getD_eq_getElem?_getD, h]
theorem gl_eq {l : List Given} {i : Nat} (h : i < l.length) : l[i] = gl l i := by simp [gl, List.getD_eq_getElem?_getD, h]
theorem gl_take {l : List Given} {i j : Nat} (h : j < i) (hi : i ≤ l.length) : gl (l.take i) j = gl l j := by
  simp [gl, List.getD_eq_getElem?_getD, List.getElem?_take, h]

/-- At these places any two of the given marks stand apart. -/
def apartIn (w : Arr 5 Int) (places : List Int) (g h : Given) : Bool := places.any fun k => apartAt w g.mark h.mark k.toNat
def settledAt (w : Arr 5 Int) (l : List Given) (places : List Int) (i : Nat) : Bool := (List.range i).all fun j => apartIn w places (gl l i) (gl l j)
def settled (w : Arr 5 Int) (l : List Given) (places : List Int) : Bool := (List.range l.length).all (settledAt w l places)

theorem F67 (w : Arr 5 Int) (l : List Given) (places : List Int) (hl : ∀ g ∈ l, okMark g.mark = true) (hp : ∀ k ∈ places, 0 ≤ k ∧ k < 6) : Ctr Try.prog 67 [enc w, enc l, enc places] (enc (settled w l places)) := by
  refine Ctr.mk' Try.func67 ca67 cc67 cr67 (Nat.le_of_ble_eq_true rfl) (fun hwf W0 D0 E1 => ?_)
  simp only [c67, r67, idx, Nat.zero_add, Nat.reduceAdd]
  have hlen : l.length ≤ maxLen := ((wf_list l).1 hwf.2.1).1
  simp only [maxLen] at hlen
  have hok : ∀ i, i < l.length → okMark (gl l i).mark = true := fun i hi => by rw [← gl_eq hi]; exact hl _ (List.getElem_mem hi)
  refine AW.seq (AW.reg cd67_0 fun K hK => ?_)
  simp only [g67_0, bR, Nat.reduceEqDiff, reduceIte, Int.reduceBNe, Int.reduceBEq]
  refine .done (hK _ ?_); clear hK K; simp only [thenQ, blockQ]
  refine AW.seq ?_
  refine AW.seq (AW.reg cd67_1 fun K hK => ?_)
  simp only [g67_1, bR, Nat.reduceEqDiff, reduceIte, Int.reduceBNe, Int.reduceBEq]
  try simp only [typR, useR, okR, e_fin, bR, Nat.reduceEqDiff, reduceIte, Int.reduceBNe, Int.reduceBEq]
  refine .done (hK _ ?_); clear hK K; simp only [thenQ, blockQ]
  refine AW.block (AW.loop (fun i : Nat => mkA [(1, enc l), (2, enc places), (3, .ptr 3 []), (11, enc l), (12, .int .i64 l.length), (13, .int .i64 i)] [(3, .box (enc w))]) (fun i => i ≤ l.length ∧ ∀ j, j < i → settledAt w l places j = true) (fun i => l.length - i) 0 ⟨by omega, fun k h => by omega⟩ ?_ (fun i hi => ?_))
  · refine Sub.of_lists ?_ ?_ ?_ ?_ <;> simp [subT, subO, onlyT, onlyO, isIn, look_cons, lookO_cons, lookO_nil, AV.only, AV.onlys, AO.only, onlys_map, onlys_append, e_only, e_int, e_bool]
  refine AW.seq (AW.reg cd67_2 fun K hK => ?_)
  simp only [g67_2, bR, Nat.reduceEqDiff, reduceIte, Int.reduceBNe, Int.reduceBEq]
  refine .done (hK _ ?_); clear hK K; simp only [thenQ, blockQ]
  refine AW.seq ?_
  refine AW.ite ?_
  simp only [condQ, bR, Nat.reduceEqDiff, reduceIte, Int.reduceBNe, Int.reduceBEq]
  refine ⟨fun h => ?_, fun h => ?_⟩
  case refine_2.refine_2 =>
    have hge : i = l.length := by simp at h; omega
    subst hge
    refine AW.exit ?_; simp only [thenQ, blockQ, reduceIte, Nat.reduceEqDiff]
    refine AW.seq (AW.reg cd67_11 fun K hK => ?_)
    simp only [g67_11, bR, Nat.reduceEqDiff, reduceIte, Int.reduceBNe, Int.reduceBEq]
    refine .done (hK _ ?_); clear hK K; simp only [thenQ, blockQ]
    refine AW.ret ?_
    simp only [blockQ, thenQ, bR, Nat.reduceEqDiff, reduceIte, Int.reduceBNe, Int.reduceBEq]
    rw [settled, all_true hi.2]
  have hlt : i < l.length := by simpa using h
  have bad : settledAt w l places i = false → settled w l places = false := fun h => all_false i hlt h
  refine AW.skip ?_; simp only [thenQ, blockQ, reduceIte, Nat.reduceEqDiff]
  refine AW.seq (AW.block ?_)
  refine AW.seq (AW.reg cd67_3 fun K hK => ?_)
  simp only [g67_3, bR, Nat.reduceEqDiff, reduceIte, Int.reduceBNe, Int.reduceBEq]
  simp only [typR, useR, okR, isE_gl hlt, e_a6, bR, Nat.reduceEqDiff, reduceIte, Int.reduceBNe, Int.reduceBEq]
  rw [stR3_ok (e_isVal _) (by rw [e_okS]; rfl) ((e_sh _).trans rfl)]
  simp only [setAt_nil, bR, Nat.reduceEqDiff, reduceIte, Int.reduceBNe, Int.reduceBEq]
  refine .done (hK _ ?_); clear hK K; simp only [thenQ, blockQ]
  refine AW.seq (AW.reg cd67_4 fun K hK => ?_)
  simp only [g67_4, bR, Nat.reduceEqDiff, reduceIte, Int.reduceBNe, Int.reduceBEq]
  simp only [slE_take (α := Given) 7 (show i ≤ l.length by omega) rfl, Option.map_none, bR, Nat.reduceEqDiff, reduceIte, Int.reduceBNe, Int.reduceBEq]
  try simp only [typR, useR, okR, e_fin, bR, Nat.reduceEqDiff, reduceIte, Int.reduceBNe, Int.reduceBEq]
  refine .done (hK _ ?_); clear hK K; simp only [thenQ, blockQ]
  have hti : (l.take i).length = i := by rw [List.length_take]; omega
  simp only [hti]
  refine AW.block (AW.loop (fun j : Nat => mkA [(1, enc l), (2, enc places), (3, .ptr 3 []), (8, .ptr 8 []), (11, enc l), (12, .int .i64 l.length), (13, .int .i64 i), (20, enc (l.take i)), (21, .int .i64 i), (22, .int .i64 j)] [(3, .box (enc w)), (8, .box (enc (gl l i)))]) (fun j => j ≤ i ∧ ∀ k, k < j → apartIn w places (gl l i) (gl l k) = true) (fun j => i - j) 0 ⟨by omega, fun k h => by omega⟩ ?_ (fun j hj => ?_))
  · refine Sub.of_lists ?_ ?_ ?_ ?_ <;> simp [subT, subO, onlyT, onlyO, isIn, look_cons, lookO_cons, lookO_nil, AV.only, AV.onlys, AO.only, onlys_map, onlys_append, e_only, e_int, e_bool]
  refine AW.seq (AW.reg cd67_5 fun K hK => ?_)
  simp only [g67_5, bR, Nat.reduceEqDiff, reduceIte, Int.reduceBNe, Int.reduceBEq]
  refine .done (hK _ ?_); clear hK K; simp only [thenQ, blockQ]
  refine AW.seq ?_
  refine AW.ite ?_
  simp only [condQ, bR, Nat.reduceEqDiff, reduceIte, Int.reduceBNe, Int.reduceBEq]
  refine ⟨fun h => ?_, fun h => ?_⟩
  case refine_2.refine_2 =>
    have hge : j = i := by simp at h; omega
    subst hge
    refine AW.exit ?_; simp only [thenQ, blockQ, reduceIte, Nat.reduceEqDiff]
    refine AW.reg cd67_10 fun K hK => ?_
    simp only [g67_10, bR, Nat.reduceEqDiff, reduceIte, Int.reduceBNe, Int.reduceBEq]
    refine .done (hK _ ?_); clear hK K; simp only [thenQ, blockQ]
    refine ⟨j + 1, ⟨by omega, fun k hk => ?_⟩, by omega, ?_⟩
    · rcases Nat.lt_or_ge k j with h1 | h1
      · exact hi.2 k h1
      · have : k = j := by omega
        subst this
        exact all_true hj.2
    · rw [wrap_id _ (by omega) (by omega)]
      refine Sub.of_lists ?_ ?_ ?_ ?_ <;> simp [subT, subO, onlyT, onlyO, isIn, look_cons, lookO_cons, lookO_nil, AV.only, AV.onlys, AO.only, onlys_map, onlys_append, e_only, e_int, e_bool]
  have hjl : j < i := by simp at h; omega
  have bad2 : apartIn w places (gl l i) (gl l j) = false → settledAt w l places i = false := fun h => all_false j hjl h
  refine AW.skip ?_; simp only [thenQ, blockQ, reduceIte, Nat.reduceEqDiff]
  refine AW.seq (AW.block ?_)
  refine AW.seq (AW.reg cd67_6 fun K hK => ?_)
  simp only [g67_6, bR, Nat.reduceEqDiff, reduceIte, Int.reduceBNe, Int.reduceBEq]
  try simp only [typR, useR, okR, isE_gl (show j < (l.take i).length by omega), gl_take hjl (show i ≤ l.length by omega), e_a6, bR, Nat.reduceEqDiff, reduceIte, Int.reduceBNe, Int.reduceBEq]
  rw [stR3_ok (e_isVal _) (by rw [e_okS]; rfl) ((e_sh _).trans rfl)]
  simp only [setAt_nil, bR, Nat.reduceEqDiff, reduceIte, Int.reduceBNe, Int.reduceBEq]
  refine .done (hK _ ?_); clear hK K; simp only [thenQ, blockQ]
  refine AW.seq ?_
  refine AW.reg cd67_7 fun K hK => ?_
  simp only [g67_7, bR, Nat.reduceEqDiff, reduceIte, Int.reduceBNe, Int.reduceBEq]
  simp only [List.all_cons, List.all_nil, AV.isVal, Bool.and_true, Bool.and_self, if_true, e_isVal, e_closed, e_fin, bR, Nat.reduceEqDiff, reduceIte, Int.reduceBNe, Int.reduceBEq]
  try simp only [typR, useR, okR, e_fin, bR, Nat.reduceEqDiff, reduceIte, Int.reduceBNe, Int.reduceBEq]
  refine .flat _ (F75 places 107 [.ref (enc w), .ref (enc (gl l i)), .ref (enc (gl l j))] ?_ (fun k => apartAt w (gl l i).mark (gl l j).mark k.toNat) (fun k hk => ?_)) rfl ?_
  · simp [AV.dones, AV.done, Enc.done, e_closed]
  · have hk2 := hp k hk
    have := F107 w (gl l i) (gl l j) k.toNat (by omega) (hok i hlt) (hok j (by omega))
    rwa [show ((k.toNat : Nat) : Int) = k by omega] at this
  try simp only [typR, useR, okR, e_fin, bR, Nat.reduceEqDiff, reduceIte, Int.reduceBNe, Int.reduceBEq]
  refine .done (hK _ ?_); clear hK K; simp only [thenQ, blockQ]
  refine AW.ite ?_
  simp only [condQ, bR, Nat.reduceEqDiff, reduceIte, Int.reduceBNe, Int.reduceBEq]
  refine ⟨fun h => ?_, fun h => ?_⟩
  · refine AW.seq (AW.reg cd67_8 fun K hK => ?_)
    simp only [g67_8, bR, Nat.reduceEqDiff, reduceIte, Int.reduceBNe, Int.reduceBEq]
    refine .done (hK _ ?_); clear hK K; simp only [thenQ, blockQ]
    refine AW.ret ?_
    simp only [blockQ, thenQ, bR, Nat.reduceEqDiff, reduceIte, Int.reduceBNe, Int.reduceBEq]
    have h1 : apartIn w places (gl l i) (gl l j) = false := by simpa [apartIn] using h
    rw [bad (bad2 h1)]
  · refine AW.skip ?_; simp only [thenQ, blockQ, reduceIte, Nat.reduceEqDiff]
    have h1 : apartIn w places (gl l i) (gl l j) = true := by simpa [apartIn] using h
    refine AW.reg cd67_9 fun K hK => ?_
    simp only [g67_9, bR, Nat.reduceEqDiff, reduceIte, Int.reduceBNe, Int.reduceBEq]
    refine .done (hK _ ?_); clear hK K; simp only [thenQ, blockQ]
    refine ⟨j + 1, ⟨by omega, fun k hk => ?_⟩, by omega, ?_⟩
    · rcases Nat.lt_or_ge k j with h2 | h2
      · exact hj.2 k h2
      · have : k = j := by omega
        subst this; exact h1
    · rw [wrap_id _ (by omega) (by omega)]
      refine Sub.of_lists ?_ ?_ ?_ ?_ <;> simp [subT, subO, onlyT, onlyO, isIn, look_cons, lookO_cons, lookO_nil, AV.only, AV.onlys, AO.only, onlys_map, onlys_append, e_only, e_int, e_bool]

end Go.Proofs.Ytkjkbpgdpnapfaa

/-
  FUNCTIONS OF mark BY CONTRACT: Look.
-/
namespace Go.Proofs.Ytkjkbpgdpnapfaa
open Go Go.Abs
open Go.Abs.Enc (enc)

def bitsOf (s : Nat) : Nat → List Int
  | 0 => []
  | i + 1 => bitsOf s i ++ if hasB s i then [(i : Int)] else []
theorem bitsOf_le (s : Nat) : ∀ i, (bitsOf s i).length ≤ i
  | 0 => Nat.le_refl _
  | i + 1 => by
    have := bitsOf_le s i
    simp only [bitsOf, List.length_append]
    split <;> simp <;> omega
theorem bitsOf_in (s : Nat) : ∀ i, i ≤ 6 → ∀ k ∈ bitsOf s i, 0 ≤ k ∧ k < 6
  | 0, _ => by simp [bitsOf]
  | i + 1, h => by
    intro k hk
    simp only [bitsOf, List.mem_append] at hk
    rcases hk with hk | hk
    · exact bitsOf_in s i (by omega) k hk
    · split at hk
      · simp only [List.mem_singleton] at hk; omega
      · cases hk

def better (found : Bool) (best set : List Int) : Bool := (!found || decide ((set.length : Int) < best.length)) || (((set.length : Int) == best.length) && decide (cmpL set best < 0))
def lookStep (w : Arr 5 Int) (poss : List Given) (p : List Int × Bool) (s : Nat) : List Int × Bool := if better p.2 p.1 (bitsOf s 6) && settled w poss (bitsOf s 6) then (bitsOf s 6, true) else p
def lookUp (w : Arr 5 Int) (poss : List Given) : Nat → List Int × Bool
  | 0 => ([], false)
  | s + 1 => lookStep w poss (lookUp w poss s) s
def lookOf (m : Marks) (r : Arr 6 Int) : List Int × Int := if okM m then (if okReading r then ((lookUp m.wear (possG m r) 64).1, 0) else ([], 12)) else ([], 13)

theorem lookUp_le (w : Arr 5 Int) (poss : List Given) : ∀ s, (lookUp w poss s).1.length ≤ 6
  | 0 => by simp [lookUp]
  | s + 1 => by
    have := lookUp_le w poss s
    have h2 := bitsOf_le s 6
    simp only [lookUp, lookStep]
    split
    · exact h2
    · exact this
theorem lookStep_no {w : Arr 5 Int} {poss : List Given} {p : List Int × Bool} {s : Nat} (h : better p.2 p.1 (bitsOf s 6) = false) : lookStep w poss p s = p := by simp [lookStep, h]

theorem possG_mem {m : Marks} {r : Arr 6 Int} {g : Given} (h : g ∈ possG m r) : g ∈ m.given := (List.mem_filter.1 h).1

theorem F12 (m : Marks) (r : Arr 6 Int) : Ctr Try.prog 12 [enc m, enc r] (.tuple [enc (lookOf m r).1, enc (lookOf m r).2]) := by
  refine Ctr.mk' Try.func12 ca12 cc12 cr12 (Nat.le_of_ble_eq_true rfl) (fun hwf W0 D0 E1 => ?_)
  simp only [c12, r12, idx, Nat.zero_add, Nat.reduceAdd]
  refine AW.seq (AW.reg cd12_0 fun K hK => ?_)
  simp only [g12_0, bR, Nat.reduceEqDiff, reduceIte, Int.reduceBNe, Int.reduceBEq]
  simp only [e_isVal, bR, Nat.reduceEqDiff, reduceIte, Int.reduceBNe, Int.reduceBEq]
  refine .done (hK _ ?_); clear hK K; simp only [thenQ, blockQ]
  refine AW.seq ?_
  refine AW.seq (AW.reg cd12_1 fun K hK => ?_)
  simp only [g12_1, bR, Nat.reduceEqDiff, reduceIte, Int.reduceBNe, Int.reduceBEq]
  simp only [typR, useR, okR, e_fin, bR, Nat.reduceEqDiff, reduceIte, Int.reduceBNe, Int.reduceBEq]
  refine .flat _ (F47 m) rfl ?_
  simp only [typR, useR, okR, e_fin, bR, Nat.reduceEqDiff, reduceIte, Int.reduceBNe, Int.reduceBEq]
  refine .flat _ (F45 r) rfl ?_
  simp only [typR, useR, okR, e_fin, bs2, bR, Nat.reduceEqDiff, reduceIte, Int.reduceBNe, Int.reduceBEq]
  refine .flat _ (F64 _) rfl ?_
  rw [first2 _ _ 13 12 (by decide) (by decide)]
  simp only [bR, Nat.reduceEqDiff, reduceIte, Int.reduceBNe, Int.reduceBEq]
  refine .done (hK _ ?_); clear hK K; simp only [thenQ, blockQ]
  generalize hw : okM m = bw
  generalize hr : okReading r = br
  cases bw
  · refine AW.seq (AW.reg cd12_2 fun K hK => ?_)
    simp only [g12_2, bR, Nat.reduceEqDiff, reduceIte, Int.reduceBNe, Int.reduceBEq]
    refine .done (hK _ ?_); clear hK K; simp only [thenQ, blockQ]
    refine AW.ite ?_
    simp only [condQ, bR, Nat.reduceEqDiff, reduceIte, Int.reduceBNe, Int.reduceBEq]
    refine ⟨fun h => ?_, fun h => ?_⟩
    · refine AW.seq (AW.reg cd12_3 fun K hK => ?_)
      simp only [g12_3, bR, Nat.reduceEqDiff, reduceIte, Int.reduceBNe, Int.reduceBEq]
      refine .done (hK _ ?_); clear hK K; simp only [thenQ, blockQ]
      refine AW.ret ?_
      simp only [blockQ, thenQ, bR, Nat.reduceEqDiff, reduceIte, Int.reduceBNe, Int.reduceBEq]
      simp [lookOf, hw, nilInt]
    · cases h
  cases br
  · refine AW.seq (AW.reg cd12_2 fun K hK => ?_)
    simp only [g12_2, bR, Nat.reduceEqDiff, reduceIte, Int.reduceBNe, Int.reduceBEq]
    refine .done (hK _ ?_); clear hK K; simp only [thenQ, blockQ]
    refine AW.ite ?_
    simp only [condQ, bR, Nat.reduceEqDiff, reduceIte, Int.reduceBNe, Int.reduceBEq]
    refine ⟨fun h => ?_, fun h => ?_⟩
    · refine AW.seq (AW.reg cd12_3 fun K hK => ?_)
      simp only [g12_3, bR, Nat.reduceEqDiff, reduceIte, Int.reduceBNe, Int.reduceBEq]
      refine .done (hK _ ?_); clear hK K; simp only [thenQ, blockQ]
      refine AW.ret ?_
      simp only [blockQ, thenQ, bR, Nat.reduceEqDiff, reduceIte, Int.reduceBNe, Int.reduceBEq]
      simp [lookOf, hw, hr, nilInt]
    · cases h
  refine AW.seq (AW.reg cd12_2 fun K hK => ?_)
  simp only [g12_2, bR, Nat.reduceEqDiff, reduceIte, Int.reduceBNe, Int.reduceBEq]
  refine .done (hK _ ?_); clear hK K; simp only [thenQ, blockQ]
  refine AW.ite ?_
  simp only [condQ, bR, Nat.reduceEqDiff, reduceIte, Int.reduceBNe, Int.reduceBEq]
  refine ⟨fun h => ?_, fun h => ?_⟩
  · cases h
  refine AW.skip ?_; simp only [thenQ, blockQ, reduceIte, Nat.reduceEqDiff]
  have hlen : m.given.length ≤ 1000 := by have := okM_len hw; omega
  have hpl : (possG m r).length ≤ 1000 := Nat.le_trans (List.length_filter_le _ _) hlen
  have hpm : ∀ g ∈ possG m r, okMark g.mark = true := fun g hg => okM_mark hw g (possG_mem hg)
  obtain ⟨poss, hposs⟩ : ∃ poss, poss = possG m r := ⟨_, rfl⟩
  -- what follows, from the possible ones on
  have key : ∀ c : Ctx, c = ⟨Try.prog, W0, D0, Try.f12.ntmps, ownE E1, E1, noY, none⟩ → AW c (.seq (.reg d12_5 g12_5) (.seq (.reg d12_6 g12_6) (.seq (.seq (.reg d12_7 g12_7) (.block 0 (.loop (.seq (.reg d12_8 g12_8) (.seq (.cond (.t 27) .skip (.exit 0)) (.seq (.block 1 (.seq (.reg d12_9 g12_9) (.seq (.reg d12_10 g12_10) (.seq (.seq (.reg d12_11 g12_11) (.block 2 (.loop (.seq (.reg d12_12 g12_12) (.seq (.cond (.t 30) .skip (.exit 2)) (.seq (.block 3 (.seq (.reg d12_13 g12_13) (.seq (.reg d12_14 g12_14) (.cond (.t 36) (.reg d12_15 g12_15) .skip)))) (.reg d12_16 g12_16))))))) (.seq (.reg d12_17 g12_17) (.seq (.reg d12_18 g12_18) (.cond (.t 71) (.reg d12_19 g12_19) .skip))))))) (.reg d12_20 g12_20))))))) (.seq (.reg d12_21 g12_21) .ret))))
      (retQ [.tmp 4, .tmp 5] (.tuple [enc (lookOf m r).1, enc (lookOf m r).2])) (mkA [(2, .ptr 2 []), (3, .ptr 3 []), (7, enc poss)] [(2, .box (enc m)), (3, .box (enc r))]) := by
    rintro c rfl
    refine AW.seq (AW.reg cd12_5 fun K hK => ?_)
    simp only [g12_5, bR, Nat.reduceEqDiff, reduceIte, Int.reduceBNe, Int.reduceBEq]
    refine .done (hK _ ?_); clear hK K; simp only [thenQ, blockQ]
    refine AW.seq (AW.reg cd12_6 fun K hK => ?_)
    simp only [g12_6, bR, Nat.reduceEqDiff, reduceIte, Int.reduceBNe, Int.reduceBEq]
    refine .done (hK _ ?_); clear hK K; simp only [thenQ, blockQ]
    refine AW.seq ?_
    refine AW.seq (AW.reg cd12_7 fun K hK => ?_)
    simp only [g12_7, bR, Nat.reduceEqDiff, reduceIte, Int.reduceBNe, Int.reduceBEq]
    refine .done (hK _ ?_); clear hK K; simp only [thenQ, blockQ]
    refine AW.block (AW.loop (fun s : Nat => mkA [(2, .ptr 2 []), (3, .ptr 3 []), (7, enc poss), (8, enc (lookUp m.wear poss s).1), (9, .bool (lookUp m.wear poss s).2), (26, .int .i64 s)] [(2, .box (enc m)), (3, .box (enc r))]) (fun s => s ≤ 64) (fun s => 64 - s) 0 (by omega) ?_ (fun s hs => ?_))
    · simp only [lookUp]
      refine Sub.freeL (y := .slice 1 []) [] 8 rfl rfl ?_ ?_ ?_ ?_ ?_
      · simp [dropO, onlyO, AO.only, e_only]
      · simp [subT, fgt, look_cons, AV.only, e_only]; rfl
      · simp [subO, dropO, lookO_cons]
      · simp [onlyT, isIn, lookO_cons, AV.only, e_only]
      · simp [onlyO, AO.only, e_only]
    obtain ⟨best, hbest⟩ : ∃ best, (lookUp m.wear poss s).1 = best := ⟨_, rfl⟩
    obtain ⟨found, hfound⟩ : ∃ found, (lookUp m.wear poss s).2 = found := ⟨_, rfl⟩
    have hlu : lookUp m.wear poss s = (best, found) := by rw [← hbest, ← hfound]
    have hbl : best.length ≤ 6 := by rw [← hbest]; exact lookUp_le _ _ _
    rw [hbest, hfound]
    refine AW.seq (AW.reg cd12_8 fun K hK => ?_)
    simp only [g12_8, bR, Nat.reduceEqDiff, reduceIte, Int.reduceBNe, Int.reduceBEq]
    refine .done (hK _ ?_); clear hK K; simp only [thenQ, blockQ]
    refine AW.seq ?_
    refine AW.ite ?_
    simp only [condQ, bR, Nat.reduceEqDiff, reduceIte, Int.reduceBNe, Int.reduceBEq]
    refine ⟨fun h => ?_, fun h => ?_⟩
    case refine_2.refine_2 =>
      have hge : s = 64 := by simp at h; omega
      subst hge
      refine AW.exit ?_; simp only [thenQ, blockQ, reduceIte, Nat.reduceEqDiff]
      refine AW.seq (AW.reg cd12_21 fun K hK => ?_)
      simp only [g12_21, bR, Nat.reduceEqDiff, reduceIte, Int.reduceBNe, Int.reduceBEq]
      refine .done (hK _ ?_); clear hK K; simp only [thenQ, blockQ]
      refine AW.ret ?_
      simp only [blockQ, thenQ, bR, Nat.reduceEqDiff, reduceIte, Int.reduceBNe, Int.reduceBEq]
      simp only [e_fin, bR, Nat.reduceEqDiff, reduceIte, Int.reduceBNe, Int.reduceBEq]
      simp [lookOf, hw, hr, hlu, ← hposs, e_int]
    have hlt : s < 64 := by simp at h; omega
    refine AW.skip ?_; simp only [thenQ, blockQ, reduceIte, Nat.reduceEqDiff]
    refine AW.seq (AW.block ?_)
    refine AW.seq (AW.reg cd12_9 fun K hK => ?_)
    simp only [g12_9, bR, Nat.reduceEqDiff, reduceIte, Int.reduceBNe, Int.reduceBEq]
    refine .done (hK _ ?_); clear hK K; simp only [thenQ, blockQ]
    refine AW.seq (AW.reg cd12_10 fun K hK => ?_)
    simp only [g12_10, bR, Nat.reduceEqDiff, reduceIte, Int.reduceBNe, Int.reduceBEq]
    refine .done (hK _ ?_); clear hK K; simp only [thenQ, blockQ]
    refine AW.seq ?_
    refine AW.seq (AW.reg cd12_11 fun K hK => ?_)
    simp only [g12_11, bR, Nat.reduceEqDiff, reduceIte, Int.reduceBNe, Int.reduceBEq]
    refine .done (hK _ ?_); clear hK K; simp only [thenQ, blockQ]
    refine AW.block (AW.loop (fun i : Nat => mkA [(2, .ptr 2 []), (3, .ptr 3 []), (7, enc poss), (8, enc best), (9, .bool found), (10, .int .i64 s), (26, .int .i64 s), (11, .own 11 (bitsOf s i).length), (29, .int .i64 i)] [(11, .row 3 1 ((bitsOf s i).map enc)), (2, .box (enc m)), (3, .box (enc r))]) (fun i => i ≤ 6) (fun i => 6 - i) 0 (by omega) ?_ (fun i hi => ?_))
    · refine Sub.adoptL 11 11 3 1 1 ?_ ?_ ?_
      · simp only [absR, Nat.reduceEqDiff, reduceIte]
      · simp only [absR, Nat.reduceEqDiff, reduceIte]
      · simp only [bitsOf, List.map_nil, List.length_nil]
        refine Sub.of_lists ?_ ?_ ?_ ?_ <;> simp [subT, subO, onlyT, onlyO, isIn, look_cons, lookO_cons, lookO_nil, AV.only, AV.onlys, AO.only, onlys_map, onlys_append, e_only, e_int, e_bool]
    refine AW.seq (AW.reg cd12_12 fun K hK => ?_)
    simp only [g12_12, bR, Nat.reduceEqDiff, reduceIte, Int.reduceBNe, Int.reduceBEq]
    refine .done (hK _ ?_); clear hK K; simp only [thenQ, blockQ]
    refine AW.seq ?_
    refine AW.ite ?_
    simp only [condQ, bR, Nat.reduceEqDiff, reduceIte, Int.reduceBNe, Int.reduceBEq]
    refine ⟨fun h => ?_, fun h => ?_⟩
    · have hi6 : i < 6 := by simp at h; omega
      have hml := bitsOf_le s i
      refine AW.skip ?_; simp only [thenQ, blockQ, reduceIte, Nat.reduceEqDiff]
      refine AW.seq (AW.block ?_)
      refine AW.seq (AW.reg cd12_13 fun K hK => ?_)
      simp only [g12_13, bR, Nat.reduceEqDiff, reduceIte, Int.reduceBNe, Int.reduceBEq]
      refine .done (hK _ ?_); clear hK K; simp only [thenQ, blockQ]
      refine AW.seq (AW.reg cd12_14 fun K hK => ?_)
      simp only [g12_14, bR, Nat.reduceEqDiff, reduceIte, Int.reduceBNe, Int.reduceBEq]
      refine .done (hK _ ?_); clear hK K; simp only [thenQ, blockQ]
      refine AW.ite ?_
      simp only [condQ, bR, Nat.reduceEqDiff, reduceIte, Int.reduceBNe, Int.reduceBEq]
      refine ⟨fun h => ?_, fun h => ?_⟩
      · have hb : hasB s i = true := h
        refine AW.reg cd12_15 fun K hK => ?_
        simp only [g12_15, bR, Nat.reduceEqDiff, reduceIte, Int.reduceBNe, Int.reduceBEq]
        rw [appR3_enc 3 1 8 11 rfl rfl (by simp) (by simp [maxLen]; omega) (by simp; omega)]
        simp only [bR, Nat.reduceEqDiff, reduceIte, Int.reduceBNe, Int.reduceBEq]
        refine .done (hK _ ?_); clear hK K; simp only [thenQ, blockQ]
        refine AW.reg cd12_16 fun K hK => ?_
        simp only [g12_16, bR, Nat.reduceEqDiff, reduceIte, Int.reduceBNe, Int.reduceBEq]
        refine .done (hK _ ?_); clear hK K; simp only [thenQ, blockQ]
        refine ⟨i + 1, by omega, by omega, ?_⟩
        rw [wrap_id _ (by omega) (by omega)]
        simp only [bitsOf, hb, reduceIte]
        refine Sub.of_lists ?_ ?_ ?_ ?_ <;> simp [subT, subO, onlyT, onlyO, isIn, look_cons, lookO_cons, lookO_nil, AV.only, AV.onlys, AO.only, onlys_map, onlys_append, e_only, e_int, e_bool]
      · have hb : hasB s i = false := h
        refine AW.skip ?_; simp only [thenQ, blockQ, reduceIte, Nat.reduceEqDiff]
        refine AW.reg cd12_16 fun K hK => ?_
        simp only [g12_16, bR, Nat.reduceEqDiff, reduceIte, Int.reduceBNe, Int.reduceBEq]
        refine .done (hK _ ?_); clear hK K; simp only [thenQ, blockQ]
        refine ⟨i + 1, by omega, by omega, ?_⟩
        rw [wrap_id _ (by omega) (by omega)]
        simp only [bitsOf, hb, reduceIte, Bool.false_eq_true, List.append_nil]
        refine Sub.of_lists ?_ ?_ ?_ ?_ <;> simp [subT, subO, onlyT, onlyO, isIn, look_cons, lookO_cons, lookO_nil, AV.only, AV.onlys, AO.only, onlys_map, onlys_append, e_only, e_int, e_bool]
    have hi6 : i = 6 := by simp at h; omega
    subst hi6
    refine AW.exit ?_; simp only [thenQ, blockQ, reduceIte, Nat.reduceEqDiff]
    have hset := bitsOf_in s 6 (Nat.le_refl _)
    have hsl := bitsOf_le s 6
    have hstep : lookUp m.wear poss (s + 1) = lookStep m.wear poss (best, found) s := by rw [lookUp, hlu]
    obtain ⟨set, hsetd⟩ : ∃ set, bitsOf s 6 = set := ⟨_, rfl⟩
    simp only [lookStep, hsetd] at hstep
    rw [hsetd] at hset hsl ⊢
    refine AW.sub (B := mkA [(2, .ptr 2 []), (3, .ptr 3 []), (7, enc poss), (8, enc best), (9, .bool found), (11, enc set), (26, .int .i64 s)] [(2, .box (enc m)), (3, .box (enc r))]) (Sub.freeL (y := enc set) [11] 11 (by simp only [bR, Nat.reduceEqDiff, reduceIte, Int.reduceBNe, Int.reduceBEq]; rfl) ?_ ?_ ?_ ?_ ?_ ?_) ?_
    · simp only [keepO, List.filter_cons, List.filter_nil, List.contains_cons, List.contains_nil, Nat.reduceBEq, Bool.or_false, Bool.or_true, Bool.true_or, BEq.rfl, bR, Nat.reduceEqDiff, reduceIte, Int.reduceBNe, Int.reduceBEq]
    · simp [dropO, onlyO, AO.only, e_only]
    · simp [subT, fgt, look_cons, AV.only, e_only]
    · simp [subO, dropO, lookO_cons]
    · simp [onlyT, isIn, lookO_cons, AV.only, e_only]
    · simp [onlyO, AO.only, e_only]
    refine AW.seq (AW.via (mkA [(13, .bool (better found best set)), (2, .ptr 2 []), (3, .ptr 3 []), (7, enc poss), (8, enc best), (9, .bool found), (11, enc set), (26, .int .i64 s)] [(2, .box (enc m)), (3, .box (enc r))]) ?_ fun B hB => ?_)
    · refine AW.reg cd12_17 fun K hK => ?_
      simp only [g12_17, bR, Nat.reduceEqDiff, reduceIte, Int.reduceBNe, Int.reduceBEq]
      cases found
      · try simp only [typR, useR, okR, e_fin, bR, Nat.reduceEqDiff, reduceIte, Int.reduceBNe, Int.reduceBEq]
        refine .done (hK _ ?_); clear hK K; simp only [thenQ, blockQ]
        simp only [better, Bool.not_false, Bool.true_or]
        refine Sub.of_lists ?_ ?_ ?_ ?_ <;> simp [subT, subO, onlyT, onlyO, isIn, look_cons, lookO_cons, lookO_nil, AV.only, AV.onlys, AO.only, onlys_map, onlys_append, e_only, e_int, e_bool]
      try simp only [typR, useR, okR, e_fin, bR, Nat.reduceEqDiff, reduceIte, Int.reduceBNe, Int.reduceBEq]
      generalize hb1 : decide ((set.length : Int) < best.length) = b1
      cases b1
      · try simp only [typR, useR, okR, e_fin, bR, Nat.reduceEqDiff, reduceIte, Int.reduceBNe, Int.reduceBEq]
        generalize hb2 : ((set.length : Int) == best.length) = b2
        cases b2
        · try simp only [typR, useR, okR, e_fin, bR, Nat.reduceEqDiff, reduceIte, Int.reduceBNe, Int.reduceBEq]
          refine .done (hK _ ?_); clear hK K; simp only [thenQ, blockQ]
          simp only [better, hb1, hb2, Bool.not_true, Bool.false_or, Bool.or_false, Bool.false_and]
          refine Sub.of_lists ?_ ?_ ?_ ?_ <;> simp [subT, subO, onlyT, onlyO, isIn, look_cons, lookO_cons, lookO_nil, AV.only, AV.onlys, AO.only, onlys_map, onlys_append, e_only, e_int, e_bool]
        try simp only [typR, useR, okR, e_fin, bR, Nat.reduceEqDiff, reduceIte, Int.reduceBNe, Int.reduceBEq]
        refine .flat _ (F66 set best) rfl ?_
        try simp only [typR, useR, okR, e_fin, bR, Nat.reduceEqDiff, reduceIte, Int.reduceBNe, Int.reduceBEq]
        refine .done (hK _ ?_); clear hK K; simp only [thenQ, blockQ]
        simp only [better, hb1, hb2, Bool.not_true, Bool.false_or, Bool.or_false, Bool.true_and]
        refine Sub.of_lists ?_ ?_ ?_ ?_ <;> simp [subT, subO, onlyT, onlyO, isIn, look_cons, lookO_cons, lookO_nil, AV.only, AV.onlys, AO.only, onlys_map, onlys_append, e_only, e_int, e_bool]
      · try simp only [typR, useR, okR, e_fin, bR, Nat.reduceEqDiff, reduceIte, Int.reduceBNe, Int.reduceBEq]
        refine .done (hK _ ?_); clear hK K; simp only [thenQ, blockQ]
        simp only [better, hb1, Bool.not_true, Bool.false_or, Bool.true_or]
        refine Sub.of_lists ?_ ?_ ?_ ?_ <;> simp [subT, subO, onlyT, onlyO, isIn, look_cons, lookO_cons, lookO_nil, AV.only, AV.onlys, AO.only, onlys_map, onlys_append, e_only, e_int, e_bool]
    simp only [thenQ, blockQ]
    refine AW.sub hB ?_
    generalize hbt : better found best set = bt at hstep
    refine AW.seq (AW.reg cd12_18 fun K hK => ?_)
    simp only [g12_18, bR, Nat.reduceEqDiff, reduceIte, Int.reduceBNe, Int.reduceBEq]
    cases bt
    · try simp only [typR, useR, okR, e_fin, bR, Nat.reduceEqDiff, reduceIte, Int.reduceBNe, Int.reduceBEq]
      refine .done (hK _ ?_); clear hK K; simp only [thenQ, blockQ]
      refine AW.ite ?_
      simp only [condQ, bR, Nat.reduceEqDiff, reduceIte, Int.reduceBNe, Int.reduceBEq]
      refine ⟨fun h => ?_, fun h => ?_⟩
      · cases h
      refine AW.skip ?_; simp only [thenQ, blockQ, reduceIte, Nat.reduceEqDiff]
      refine AW.reg cd12_20 fun K hK => ?_
      simp only [g12_20, bR, Nat.reduceEqDiff, reduceIte, Int.reduceBNe, Int.reduceBEq]
      refine .done (hK _ ?_); clear hK K; simp only [thenQ, blockQ]
      refine ⟨s + 1, by omega, by omega, ?_⟩
      rw [hstep, wrap_id _ (by omega) (by omega)]
      simp only [Bool.false_and, Bool.false_eq_true, if_false]
      refine Sub.of_lists ?_ ?_ ?_ ?_ <;> simp [subT, subO, onlyT, onlyO, isIn, look_cons, lookO_cons, lookO_nil, AV.only, AV.onlys, AO.only, onlys_map, onlys_append, e_only, e_int, e_bool]
    · try simp only [typR, useR, okR, e_fin, bR, Nat.reduceEqDiff, reduceIte, Int.reduceBNe, Int.reduceBEq]
      refine .flat _ (F67 m.wear poss set (by rw [hposs]; exact hpm) hset) rfl ?_
      try simp only [typR, useR, okR, e_fin, bR, Nat.reduceEqDiff, reduceIte, Int.reduceBNe, Int.reduceBEq]
      refine .done (hK _ ?_); clear hK K; simp only [thenQ, blockQ]
      refine AW.ite ?_
      simp only [condQ, bR, Nat.reduceEqDiff, reduceIte, Int.reduceBNe, Int.reduceBEq]
      refine ⟨fun h => ?_, fun h => ?_⟩
      · refine AW.reg cd12_19 fun K hK => ?_
        simp only [g12_19, bR, Nat.reduceEqDiff, reduceIte, Int.reduceBNe, Int.reduceBEq]
        refine .done (hK _ ?_); clear hK K; simp only [thenQ, blockQ]
        refine AW.reg cd12_20 fun K hK => ?_
        simp only [g12_20, bR, Nat.reduceEqDiff, reduceIte, Int.reduceBNe, Int.reduceBEq]
        refine .done (hK _ ?_); clear hK K; simp only [thenQ, blockQ]
        refine ⟨s + 1, by omega, by omega, ?_⟩
        rw [hstep, wrap_id _ (by omega) (by omega)]
        have h' : settled m.wear poss set = true := h
        simp only [h', Bool.true_and, if_true]
        refine Sub.of_lists ?_ ?_ ?_ ?_ <;> simp [subT, subO, onlyT, onlyO, isIn, look_cons, lookO_cons, lookO_nil, AV.only, AV.onlys, AO.only, onlys_map, onlys_append, e_only, e_int, e_bool]
      · refine AW.skip ?_; simp only [thenQ, blockQ, reduceIte, Nat.reduceEqDiff]
        refine AW.reg cd12_20 fun K hK => ?_
        simp only [g12_20, bR, Nat.reduceEqDiff, reduceIte, Int.reduceBNe, Int.reduceBEq]
        refine .done (hK _ ?_); clear hK K; simp only [thenQ, blockQ]
        refine ⟨s + 1, by omega, by omega, ?_⟩
        rw [hstep, wrap_id _ (by omega) (by omega)]
        have h' : settled m.wear poss set = false := h
        simp only [h', Bool.true_and, Bool.false_eq_true, if_false]
        refine Sub.of_lists ?_ ?_ ?_ ?_ <;> simp [subT, subO, onlyT, onlyO, isIn, look_cons, lookO_cons, lookO_nil, AV.only, AV.onlys, AO.only, onlys_map, onlys_append, e_only, e_int, e_bool]
  refine AW.seq (AW.reg cd12_4 fun K hK => ?_)
  simp only [g12_4, bR, Nat.reduceEqDiff, reduceIte, Int.reduceBNe, Int.reduceBEq]
  simp only [typR, useR, okR, e_fin, bR, Nat.reduceEqDiff, reduceIte, Int.reduceBNe, Int.reduceBEq]
  refine .obj false [(7, 25)] [] [enc m, enc r] (possPost 7 m r) rfl (F65 m r (okM_mark hw) hlen) Gvn.nil ⟨.inl ⟨(e_ren _ _).symm, e_only _ _, e_isVal _⟩, .inl ⟨(e_ren _ _).symm, e_only _ _, e_isVal _⟩, trivial⟩ ?_ ?_
  · rintro x os' (⟨_, rfl, rfl⟩ | ⟨k, rfl, rfl⟩)
    · exact Bck.nil (fun _ => rfl) (fun h => by cases h)
    · exact Bck.new1 (fun p => map_only p _) (fun h => by cases h) rfl (fun h => by cases h) rfl (by decide)
  · rintro x os' (⟨hp, rfl, rfl⟩ | ⟨k, rfl, rfl⟩)
    · simp only [e_ren, renR, List.nil_append, e_fin, bR, Nat.reduceEqDiff, reduceIte, Int.reduceBNe, Int.reduceBEq]
      refine .done (hK _ ?_); clear hK K; simp only [thenQ, blockQ]
      refine AW.sub ?_ (key _ rfl)
      rw [hposs, hp]
      refine Sub.of_lists ?_ ?_ ?_ ?_ <;> simp [subT, subO, onlyT, onlyO, isIn, look_cons, lookO_cons, lookO_nil, AV.only, AV.onlys, AO.only, onlys_map, onlys_append, e_only, e_int, e_bool]
    · simp only [rowG, renR, rens_map_enc, List.cons_append, List.nil_append, bR, Nat.reduceEqDiff, reduceIte, Int.reduceBNe, Int.reduceBEq]
      refine .done (hK _ ?_); clear hK K; simp only [thenQ, blockQ]
      refine AW.sub (Sub.freeL (y := enc poss) [25] 7 rfl ?_ ?_ ?_ ?_ ?_ ?_) (key _ rfl)
      · simp only [keepO, List.filter_cons, List.filter_nil, List.contains_cons, List.contains_nil, Nat.reduceBEq, Bool.or_false, Bool.or_true, Bool.true_or, BEq.rfl, finV_take (α := Given) (sz := 7) rfl, take_row, hposs, bR, Nat.reduceEqDiff, reduceIte, Int.reduceBNe, Int.reduceBEq]
      · simp [dropO, onlyO, AO.only, e_only]
      · simp [subT, fgt, look_cons, AV.only]
      · simp [subO, dropO, lookO_cons]
      · simp [onlyT, isIn, lookO_cons, AV.only, e_only]
      · simp [onlyO, AO.only, e_only]

end Go.Proofs.Ytkjkbpgdpnapfaa

/-
  FUNCTIONS OF mark BY CONTRACT: Looked.
-/
namespace Go.Proofs.Ytkjkbpgdpnapfaa
open Go Go.Abs
open Go.Abs.Enc (enc)

theorem okPlaces_in {l : List Int} (h : okPlaces l = true) : ∀ k ∈ l, 0 ≤ k ∧ k < 6 := by
  intro k hk
  simp only [okPlaces, List.all_eq_true, List.mem_range] at h
  obtain ⟨i, hi, rfl⟩ := List.getElem_of_mem hk
  have := h i hi
  simp only [placeAt, inR, List.getD_eq_getElem?_getD, List.getElem?_eq_getElem hi, Option.getD_some, Bool.and_eq_true, decide_eq_true_eq] at this
  omega

theorem F76 (m : Marks) (g : Given) (worn : Arr 6 Int) (k : Nat) (hk : k < 6) (hg : okMark g.mark = true) : Ctr Try.prog 76 (enc (k : Int) :: [.ref (enc m), .ref (enc g), .ref (enc worn)]) (enc (band (m.wear.g (g.mark.g k).toNat) (worn.g k) == 0)) := by
  refine Ctr.mk' Try.func76 ca76 cc76 cr76 (Nat.le_of_ble_eq_true rfl) (fun hwf W0 D0 E1 => ?_)
  simp only [c76, r76, idx, Nat.zero_add, Nat.reduceAdd]
  have h1 := okMark_at hg hk
  refine AW.seq (AW.reg cd76_0 fun K hK => ?_)
  simp only [g76_0, bR, Nat.reduceEqDiff, reduceIte, Int.reduceBNe, Int.reduceBEq]
  refine .done (hK _ ?_); clear hK K; simp only [thenQ, blockQ]
  refine AW.seq (AW.reg cd76_1 fun K hK => ?_)
  simp only [g76_1, bR, Nat.reduceEqDiff, reduceIte, Int.reduceBNe, Int.reduceBEq]
  try simp only [typR, useR, okR, e_fin, bR, Nat.reduceEqDiff, reduceIte, Int.reduceBNe, Int.reduceBEq]
  refine .flat _ (F77 m.wear g.mark k hk h1.1 h1.2) rfl ?_
  simp only [typR, useR, okR, inB_nat 1 worn hk rfl, atL_g worn hk, get_g worn hk, bR, Nat.reduceEqDiff, reduceIte, Int.reduceBNe, Int.reduceBEq]
  refine .flat _ (F78 _ _) rfl ?_
  try simp only [typR, useR, okR, e_fin, bR, Nat.reduceEqDiff, reduceIte, Int.reduceBNe, Int.reduceBEq]
  refine .done (hK _ ?_); clear hK K; simp only [thenQ, blockQ]
  refine AW.ret ?_
  simp only [blockQ, thenQ, bR, Nat.reduceEqDiff, reduceIte, Int.reduceBNe, Int.reduceBEq]
  simp only [bne, Bool.not_not]

def clash (w : Arr 5 Int) (worn : Arr 6 Int) (places : List Int) (g : Given) : Bool := places.any fun k => band (w.g (g.mark.g k.toNat).toNat) (worn.g k.toNat) == 0

theorem F74 (m : Marks) (g : Given) (worn : Arr 6 Int) (places : List Int) (hg : okMark g.mark = true) (hp : ∀ k ∈ places, 0 ≤ k ∧ k < 6) : Ctr Try.prog 74 (enc g :: [.ref (enc places), .ref (enc m), .ref (enc worn)]) (enc (clash m.wear worn places g)) := by
  refine Ctr.mk' Try.func74 ca74 cc74 cr74 (Nat.le_of_ble_eq_true rfl) (fun hwf W0 D0 E1 => ?_)
  simp only [c74, r74, idx, Nat.zero_add, Nat.reduceAdd]
  refine AW.seq (AW.reg cd74_0 fun K hK => ?_)
  simp only [g74_0, bR, Nat.reduceEqDiff, reduceIte, Int.reduceBNe, Int.reduceBEq]
  simp only [e_isVal, bR, Nat.reduceEqDiff, reduceIte, Int.reduceBNe, Int.reduceBEq]
  refine .done (hK _ ?_); clear hK K; simp only [thenQ, blockQ]
  refine AW.seq (AW.reg cd74_1 fun K hK => ?_)
  simp only [g74_1, bR, Nat.reduceEqDiff, reduceIte, Int.reduceBNe, Int.reduceBEq]
  try simp only [typR, useR, okR, e_fin, bR, Nat.reduceEqDiff, reduceIte, Int.reduceBNe, Int.reduceBEq]
  try simp only [List.all_cons, List.all_nil, AV.isVal, Bool.and_true, Bool.and_self, if_true, e_isVal, e_closed, e_fin, bR, Nat.reduceEqDiff, reduceIte, Int.reduceBNe, Int.reduceBEq]
  try simp only [typR, useR, okR, e_fin, bR, Nat.reduceEqDiff, reduceIte, Int.reduceBNe, Int.reduceBEq]
  refine .flat _ (F75 places 76 [.ref (enc m), .ref (enc g), .ref (enc worn)] ?_ (fun k => band (m.wear.g (g.mark.g k.toNat).toNat) (worn.g k.toNat) == 0) (fun k hk => ?_)) rfl ?_
  · simp [AV.dones, AV.done, Enc.done, e_closed]
  · have hk2 := hp k hk
    have := F76 m g worn k.toNat (by omega) hg
    rwa [show ((k.toNat : Nat) : Int) = k by omega] at this
  try simp only [typR, useR, okR, e_fin, bR, Nat.reduceEqDiff, reduceIte, Int.reduceBNe, Int.reduceBEq]
  refine .done (hK _ ?_); clear hK K; simp only [thenQ, blockQ]
  refine AW.ret ?_
  simp only [blockQ, thenQ, bR, Nat.reduceEqDiff, reduceIte, Int.reduceBNe, Int.reduceBEq]
  rfl

def lookedG (m : Marks) (r worn : Arr 6 Int) (places : List Int) : List Given := keep (clash m.wear worn places) (possG m r)
def lookedOf (m : Marks) (r worn : Arr 6 Int) (places : List Int) : List Int × Int :=
  if okM m then (if okReading r then (if okReading worn then (if okPlaces places then ((lookedG m r worn places).map (·.owner), 0) else ([], 18)) else ([], 12)) else ([], 12)) else ([], 13)

theorem F14 (m : Marks) (r worn : Arr 6 Int) (places : List Int) : Ctr Try.prog 14 [enc m, enc r, enc worn, enc places] (.tuple [enc (lookedOf m r worn places).1, enc (lookedOf m r worn places).2]) := by
  refine Ctr.mk' Try.func14 ca14 cc14 cr14 (Nat.le_of_ble_eq_true rfl) (fun hwf W0 D0 E1 => ?_)
  simp only [c14, r14, idx, Nat.zero_add, Nat.reduceAdd]
  refine AW.seq (AW.reg cd14_0 fun K hK => ?_)
  simp only [g14_0, bR, Nat.reduceEqDiff, reduceIte, Int.reduceBNe, Int.reduceBEq]
  simp only [e_isVal, bR, Nat.reduceEqDiff, reduceIte, Int.reduceBNe, Int.reduceBEq]
  refine .done (hK _ ?_); clear hK K; simp only [thenQ, blockQ]
  refine AW.seq ?_
  refine AW.seq (AW.reg cd14_1 fun K hK => ?_)
  simp only [g14_1, bR, Nat.reduceEqDiff, reduceIte, Int.reduceBNe, Int.reduceBEq]
  try simp only [typR, useR, okR, e_fin, bR, Nat.reduceEqDiff, reduceIte, Int.reduceBNe, Int.reduceBEq]
  refine .flat _ (F47 m) rfl ?_
  try simp only [typR, useR, okR, e_fin, bR, Nat.reduceEqDiff, reduceIte, Int.reduceBNe, Int.reduceBEq]
  refine .flat _ (F45 r) rfl ?_
  try simp only [typR, useR, okR, e_fin, bR, Nat.reduceEqDiff, reduceIte, Int.reduceBNe, Int.reduceBEq]
  refine .flat _ (F45 worn) rfl ?_
  simp only [typR, useR, okR, e_fin, bs3, bR, Nat.reduceEqDiff, reduceIte, Int.reduceBNe, Int.reduceBEq]
  refine .flat _ (F64 _) rfl ?_
  rw [first3 _ _ _ 13 12 12 (by decide) (by decide) (by decide)]
  simp only [bR, Nat.reduceEqDiff, reduceIte, Int.reduceBNe, Int.reduceBEq]
  refine .done (hK _ ?_); clear hK K; simp only [thenQ, blockQ]
  generalize hw : okM m = bw
  generalize hr : okReading r = br
  generalize hwo : okReading worn = bwo
  cases bw
  · refine AW.seq (AW.reg cd14_2 fun K hK => ?_)
    simp only [g14_2, bR, Nat.reduceEqDiff, reduceIte, Int.reduceBNe, Int.reduceBEq]
    refine .done (hK _ ?_); clear hK K; simp only [thenQ, blockQ]
    refine AW.ite ?_
    simp only [condQ, bR, Nat.reduceEqDiff, reduceIte, Int.reduceBNe, Int.reduceBEq]
    refine ⟨fun h => ?_, fun h => ?_⟩
    · refine AW.seq (AW.reg cd14_3 fun K hK => ?_)
      simp only [g14_3, bR, Nat.reduceEqDiff, reduceIte, Int.reduceBNe, Int.reduceBEq]
      refine .done (hK _ ?_); clear hK K; simp only [thenQ, blockQ]
      refine AW.ret ?_
      simp only [blockQ, thenQ, bR, Nat.reduceEqDiff, reduceIte, Int.reduceBNe, Int.reduceBEq]
      simp [lookedOf, hw, nilInt]
    · cases h
  cases br
  · refine AW.seq (AW.reg cd14_2 fun K hK => ?_)
    simp only [g14_2, bR, Nat.reduceEqDiff, reduceIte, Int.reduceBNe, Int.reduceBEq]
    refine .done (hK _ ?_); clear hK K; simp only [thenQ, blockQ]
    refine AW.ite ?_
    simp only [condQ, bR, Nat.reduceEqDiff, reduceIte, Int.reduceBNe, Int.reduceBEq]
    refine ⟨fun h => ?_, fun h => ?_⟩
    · refine AW.seq (AW.reg cd14_3 fun K hK => ?_)
      simp only [g14_3, bR, Nat.reduceEqDiff, reduceIte, Int.reduceBNe, Int.reduceBEq]
      refine .done (hK _ ?_); clear hK K; simp only [thenQ, blockQ]
      refine AW.ret ?_
      simp only [blockQ, thenQ, bR, Nat.reduceEqDiff, reduceIte, Int.reduceBNe, Int.reduceBEq]
      simp [lookedOf, hw, hr, nilInt]
    · cases h
  cases bwo
  · refine AW.seq (AW.reg cd14_2 fun K hK => ?_)
    simp only [g14_2, bR, Nat.reduceEqDiff, reduceIte, Int.reduceBNe, Int.reduceBEq]
    refine .done (hK _ ?_); clear hK K; simp only [thenQ, blockQ]
    refine AW.ite ?_
    simp only [condQ, bR, Nat.reduceEqDiff, reduceIte, Int.reduceBNe, Int.reduceBEq]
    refine ⟨fun h => ?_, fun h => ?_⟩
    · refine AW.seq (AW.reg cd14_3 fun K hK => ?_)
      simp only [g14_3, bR, Nat.reduceEqDiff, reduceIte, Int.reduceBNe, Int.reduceBEq]
      refine .done (hK _ ?_); clear hK K; simp only [thenQ, blockQ]
      refine AW.ret ?_
      simp only [blockQ, thenQ, bR, Nat.reduceEqDiff, reduceIte, Int.reduceBNe, Int.reduceBEq]
      simp [lookedOf, hw, hr, hwo, nilInt]
    · cases h
  refine AW.seq (AW.reg cd14_2 fun K hK => ?_)
  simp only [g14_2, bR, Nat.reduceEqDiff, reduceIte, Int.reduceBNe, Int.reduceBEq]
  refine .done (hK _ ?_); clear hK K; simp only [thenQ, blockQ]
  refine AW.ite ?_
  simp only [condQ, bR, Nat.reduceEqDiff, reduceIte, Int.reduceBNe, Int.reduceBEq]
  refine ⟨fun h => ?_, fun h => ?_⟩
  · cases h
  refine AW.skip ?_; simp only [thenQ, blockQ, reduceIte, Nat.reduceEqDiff]
  refine AW.seq ?_
  refine AW.seq (AW.reg cd14_4 fun K hK => ?_)
  simp only [g14_4, bR, Nat.reduceEqDiff, reduceIte, Int.reduceBNe, Int.reduceBEq]
  try simp only [typR, useR, okR, e_fin, bR, Nat.reduceEqDiff, reduceIte, Int.reduceBNe, Int.reduceBEq]
  refine .flat _ (F71 places) rfl ?_
  generalize hpl : okPlaces places = bp
  cases bp
  · try simp only [typR, useR, okR, e_fin, bR, Nat.reduceEqDiff, reduceIte, Int.reduceBNe, Int.reduceBEq]
    refine .done (hK _ ?_); clear hK K; simp only [thenQ, blockQ]
    refine AW.ite ?_
    simp only [condQ, bR, Nat.reduceEqDiff, reduceIte, Int.reduceBNe, Int.reduceBEq]
    refine ⟨fun h => ?_, fun h => ?_⟩
    · refine AW.seq (AW.reg cd14_5 fun K hK => ?_)
      simp only [g14_5, bR, Nat.reduceEqDiff, reduceIte, Int.reduceBNe, Int.reduceBEq]
      refine .done (hK _ ?_); clear hK K; simp only [thenQ, blockQ]
      refine AW.ret ?_
      simp only [blockQ, thenQ, bR, Nat.reduceEqDiff, reduceIte, Int.reduceBNe, Int.reduceBEq]
      simp [lookedOf, hw, hr, hwo, hpl, nilInt]
    · cases h
  try simp only [typR, useR, okR, e_fin, bR, Nat.reduceEqDiff, reduceIte, Int.reduceBNe, Int.reduceBEq]
  refine .done (hK _ ?_); clear hK K; simp only [thenQ, blockQ]
  refine AW.ite ?_
  simp only [condQ, bR, Nat.reduceEqDiff, reduceIte, Int.reduceBNe, Int.reduceBEq]
  refine ⟨fun h => ?_, fun h => ?_⟩
  · cases h
  refine AW.skip ?_; simp only [thenQ, blockQ, reduceIte, Nat.reduceEqDiff]
  have hpi := okPlaces_in hpl
  have hlen : m.given.length ≤ 1000 := by have := okM_len hw; omega
  have hps : (possG m r).length ≤ 1000 := Nat.le_trans (List.length_filter_le _ _) hlen
  have hpm : ∀ g ∈ possG m r, okMark g.mark = true := fun g hg => okM_mark hw g (possG_mem hg)
  have hld : (lookedG m r worn places).length ≤ 1000 := Nat.le_trans (List.length_filter_le _ _) hps
  have hd : AV.dones [.ref (enc places), .ref (enc m), .ref (enc worn)] = true := by simp only [AV.dones, AV.done, e_closed, Bool.and_self]
  refine AW.seq (AW.reg cd14_6 fun K hK => ?_)
  simp only [g14_6, bR, Nat.reduceEqDiff, reduceIte, Int.reduceBNe, Int.reduceBEq]
  try simp only [typR, useR, okR, e_fin, bR, Nat.reduceEqDiff, reduceIte, Int.reduceBNe, Int.reduceBEq]
  refine .obj false [(7, 27)] [] [enc m, enc r] (possPost 7 m r) rfl (F65 m r (okM_mark hw) hlen) Gvn.nil ⟨.inl ⟨(e_ren _ _).symm, e_only _ _, e_isVal _⟩, .inl ⟨(e_ren _ _).symm, e_only _ _, e_isVal _⟩, trivial⟩ ?_ ?_
  · rintro x os' (⟨_, rfl, rfl⟩ | ⟨k, rfl, rfl⟩)
    · exact Bck.nil (fun _ => rfl) (fun h => by cases h)
    · exact Bck.new1 (fun p => map_only p _) (fun h => by cases h) rfl (fun h => by cases h) rfl (by decide)
  · rintro x os' (⟨hp, rfl, rfl⟩ | ⟨k, rfl, rfl⟩)
    · have hlk : lookedG m r worn places = [] := by simp [lookedG, keep, hp]
      simp only [e_ren, renR, List.nil_append, e_fin, List.all_cons, List.all_nil, AV.isVal, Bool.and_self, e_closed, bR, Nat.reduceEqDiff, reduceIte, Int.reduceBNe, Int.reduceBEq]
      refine .free [7, 4, 6] (enc ([] : List Given)) rfl (F73n 74 [.ref (enc places), .ref (enc m), .ref (enc worn)] hd) ?_ ?_ ?_
      · simp only [keepO, List.filter_cons, List.filter_nil, List.contains_cons, List.contains_nil, Nat.reduceBEq, Bool.or_false, Bool.or_true, Bool.true_or, Bool.false_or, BEq.rfl, e_closed, e_fin, bR, Nat.reduceEqDiff, reduceIte, Int.reduceBNe, Int.reduceBEq]
      · simp [dropO, onlyO, AO.only, e_only]
      · simp only [fgt, dropO, List.filter_cons, List.filter_nil, List.contains_cons, List.contains_nil, Nat.reduceBEq, Bool.or_false, Bool.or_true, Bool.true_or, Bool.false_or, BEq.rfl, e_fin, bR, Nat.reduceEqDiff, reduceIte, Int.reduceBNe, Int.reduceBEq]
        refine .lead _ (F72 [] (by simp)) ?_
        simp only [List.map_nil, bR, Nat.reduceEqDiff, reduceIte, Int.reduceBNe, Int.reduceBEq]
        refine .done (hK _ ?_); clear hK K; simp only [thenQ, blockQ]
        refine AW.ret ?_
        simp only [blockQ, thenQ, bR, Nat.reduceEqDiff, reduceIte, Int.reduceBNe, Int.reduceBEq]
        simp only [e_fin, bR, Nat.reduceEqDiff, reduceIte, Int.reduceBNe, Int.reduceBEq]
        simp [lookedOf, hw, hr, hwo, hpl, hlk]
    · simp only [rowG, renR, rens_map_enc, List.cons_append, List.nil_append, List.all_cons, List.all_nil, AV.isVal, Bool.and_self, bR, Nat.reduceEqDiff, reduceIte, Int.reduceBNe, Int.reduceBEq]
      refine .obj true [(1000000, 27)] (rowG 1000000 (possG m r) k) [.view 1000000 [] 7 0 (possG m r).length, .func 74 [.ref (enc places), .ref (enc m), .ref (enc worn)]] (delPost 1000000 (lookedG m r worn places)) rfl
        (F73 (possG m r) 74 [.ref (enc places), .ref (enc m), .ref (enc worn)] hd (clash m.wear worn places) (fun g hg => F74 m g worn places (hpm g hg) hpi) hps k) ⟨?_, ?_⟩ ⟨.inl ⟨?_, ?_, rfl⟩, .inr ?_, trivial⟩ ?_ ?_
      · intro n x h
        simp only [rowG, lookO] at h
        split at h
        · rename_i hn'
          subst hn'
          simp only [Option.some.injEq] at h
          subst h
          exact ⟨by simp only [renR, rens_map_enc, bR, Nat.reduceEqDiff, reduceIte, Int.reduceBNe, Int.reduceBEq], map_only _ _, rfl⟩
        · cases h
      · intro a b ha hb _
        rw [isIn_one.1 ha, isIn_one.1 hb]
      · simp only [renR, bR, Nat.reduceEqDiff, reduceIte, Int.reduceBNe, Int.reduceBEq]
      · exact isIn_one.2 rfl
      · simp only [names, rowG, rnm, dropO, List.filter_cons, List.filter_nil, List.map_cons, List.map_nil, List.contains_cons, List.contains_nil, Nat.reduceBEq, Bool.or_false, Bool.or_true, Bool.true_or, Bool.false_or, BEq.rfl, e_closed, e_fin, bR, Nat.reduceEqDiff, reduceIte, Int.reduceBNe, Int.reduceBEq]
      · rintro x os' ⟨k', rfl, rfl⟩
        exact Bck.one (fun p => map_only p _) (fun _ => map_lean _) (isIn_one.2 rfl) (fun _ => rfl)
      · rintro x os' ⟨k', rfl, rfl⟩
        simp only [rowG, renR, rens_map_enc, List.cons_append, List.nil_append, bR, Nat.reduceEqDiff, reduceIte, Int.reduceBNe, Int.reduceBEq]
        refine .free [27] _ rfl (F72 (lookedG m r worn places) hld) ?_ ?_ ?_
        · simp only [keepO, List.filter_cons, List.filter_nil, List.contains_cons, List.contains_nil, Nat.reduceBEq, Bool.or_false, Bool.or_true, Bool.true_or, Bool.false_or, BEq.rfl, finV_take (α := Given) (sz := 7) rfl, take_row, bR, Nat.reduceEqDiff, reduceIte, Int.reduceBNe, Int.reduceBEq]
        · simp [dropO, onlyO, AO.only, e_only]
        · simp only [fgt, dropO, List.filter_cons, List.filter_nil, List.contains_cons, List.contains_nil, Nat.reduceBEq, Bool.or_false, Bool.or_true, Bool.true_or, Bool.false_or, BEq.rfl, AV.only, e_only, bR, Nat.reduceEqDiff, reduceIte, Int.reduceBNe, Int.reduceBEq]
          refine .done (hK _ ?_); clear hK K; simp only [thenQ, blockQ]
          refine AW.ret ?_
          simp only [blockQ, thenQ, bR, Nat.reduceEqDiff, reduceIte, Int.reduceBNe, Int.reduceBEq]
          simp only [e_fin, bR, Nat.reduceEqDiff, reduceIte, Int.reduceBNe, Int.reduceBEq]
          simp [lookedOf, hw, hr, hwo, hpl]

end Go.Proofs.Ytkjkbpgdpnapfaa

/-
  FUNCTIONS OF mark BY CONTRACT: Worn.
-/
namespace Go.Proofs.Ytkjkbpgdpnapfaa
open Go Go.Abs
open Go.Abs.Enc (enc)

theorem members_mem {w : Int} {k : Nat} (h : bit w k = true) : ∀ n, k < n → (k : Int) ∈ members w n
  | 0, h => absurd h (by omega)
  | n + 1, hk => by
    simp only [members, List.mem_append]
    rcases Nat.lt_or_ge k n with h1 | h1
    · exact .inl (members_mem h n h1)
    · have : k = n := by omega
      subst this
      right; simp [h]
theorem members_in {w : Int} : ∀ n, ∀ x ∈ members w n, 0 ≤ x ∧ x < n
  | 0 => by simp [members]
  | n + 1 => by
    intro x hx
    simp only [members, List.mem_append] at hx
    rcases hx with hx | hx
    · have := members_in n x hx; omega
    · split at hx
      · simp only [List.mem_singleton] at hx; omega
      · cases hx
theorem okWear_at {w : Arr 5 Int} (h : okWear w = true) {k : Nat} (hk : k < 5) : (0 ≤ w.g k ∧ w.g k ≤ 31) ∧ bit (w.g k) k = true := by
  simp only [okWear, List.all_eq_true, List.mem_range, Bool.and_eq_true] at h
  have := h k hk
  simp only [inR, Bool.and_eq_true, decide_eq_true_eq] at this
  exact this

/-- The place of the sign that a cut chooses. -/
def cutAt (cuts : List Int) (i n : Nat) : Nat := if 0 < cuts.length then (((cuts.getD (i % cuts.length) 0).tmod n + n).tmod n).toNat else 0
def signs (w : Arr 5 Int) (a : Arr 6 Int) (i : Nat) : List Int := members (w.g (a.g i).toNat) 5
def wornV (w : Arr 5 Int) (a : Arr 6 Int) (cuts : List Int) (i : Nat) : Int := shl 1 ((signs w a i).getD (cutAt cuts i (signs w a i).length) 0).toNat
def wornUp (w : Arr 5 Int) (a : Arr 6 Int) (cuts : List Int) : Nat → Arr 6 Int
  | 0 => zero6
  | i + 1 => upd (wornUp w a cuts i) i (wornV w a cuts i)
def wornR (w : Arr 5 Int) (a : Arr 6 Int) (cuts : List Int) : Arr 6 Int × Int := if okWear w then (if okMark a then (wornUp w a cuts 6, 0) else (zero6, 10)) else (zero6, 11)

theorem cutAt_lt (cuts : List Int) (i : Nat) {n : Nat} (hn : 0 < n) : cutAt cuts i n < n := by
  unfold cutAt
  split
  · have h1 : -(n : Int) < (cuts.getD (i % cuts.length) 0).tmod n := by
      have := Int.tmod_lt_of_pos (-(cuts.getD (i % cuts.length) 0)) (show (0 : Int) < n by omega)
      rw [Int.neg_tmod] at this; omega
    have h2 := Int.tmod_lt_of_pos ((cuts.getD (i % cuts.length) 0).tmod n + n) (show (0 : Int) < n by omega)
    have h3 : 0 ≤ ((cuts.getD (i % cuts.length) 0).tmod n + n).tmod n := Int.tmod_nonneg _ (by omega)
    omega
  · exact hn

theorem F19 (w : Arr 5 Int) (a : Arr 6 Int) (cuts : List Int) : Ctr Try.prog 19 [enc w, enc a, enc cuts] (.tuple [enc (wornR w a cuts).1, enc (wornR w a cuts).2]) := by
  refine Ctr.mk' Try.func19 ca19 cc19 cr19 (Nat.le_of_ble_eq_true rfl) (fun hwf W0 D0 E1 => ?_)
  simp only [c19, r19, idx, Nat.zero_add, Nat.reduceAdd]
  have hlen : cuts.length ≤ maxLen := ((wf_list cuts).1 hwf.2.2.1).1
  simp only [maxLen] at hlen
  refine AW.seq (AW.reg cd19_0 fun K hK => ?_)
  simp only [g19_0, bR, Nat.reduceEqDiff, reduceIte, Int.reduceBNe, Int.reduceBEq]
  simp only [e_isVal, e_zero6, bR, Nat.reduceEqDiff, reduceIte, Int.reduceBNe, Int.reduceBEq]
  refine .done (hK _ ?_); clear hK K; simp only [thenQ, blockQ]
  refine AW.seq ?_
  refine AW.seq (AW.reg cd19_1 fun K hK => ?_)
  simp only [g19_1, bR, Nat.reduceEqDiff, reduceIte, Int.reduceBNe, Int.reduceBEq]
  try simp only [typR, useR, okR, e_fin, bR, Nat.reduceEqDiff, reduceIte, Int.reduceBNe, Int.reduceBEq]
  refine .flat _ (F43 w) rfl ?_
  try simp only [typR, useR, okR, e_fin, bR, Nat.reduceEqDiff, reduceIte, Int.reduceBNe, Int.reduceBEq]
  refine .flat _ (F41 a) rfl ?_
  simp only [typR, useR, okR, e_fin, bs2, bR, Nat.reduceEqDiff, reduceIte, Int.reduceBNe, Int.reduceBEq]
  refine .flat _ (F64 _) rfl ?_
  rw [first2 _ _ 11 10 (by decide) (by decide)]
  simp only [bR, Nat.reduceEqDiff, reduceIte, Int.reduceBNe, Int.reduceBEq]
  refine .done (hK _ ?_); clear hK K; simp only [thenQ, blockQ]
  generalize hw : okWear w = bw
  generalize ha : okMark a = ba
  cases bw
  · refine AW.seq (AW.reg cd19_2 fun K hK => ?_)
    simp only [g19_2, bR, Nat.reduceEqDiff, reduceIte, Int.reduceBNe, Int.reduceBEq]
    refine .done (hK _ ?_); clear hK K; simp only [thenQ, blockQ]
    refine AW.ite ?_
    simp only [condQ, bR, Nat.reduceEqDiff, reduceIte, Int.reduceBNe, Int.reduceBEq]
    refine ⟨fun h => ?_, fun h => ?_⟩
    · refine AW.seq (AW.reg cd19_3 fun K hK => ?_)
      simp only [g19_3, bR, Nat.reduceEqDiff, reduceIte, Int.reduceBNe, Int.reduceBEq]
      simp only [setParts, e_zero6, stR3_6, bR, Nat.reduceEqDiff, reduceIte, Int.reduceBNe, Int.reduceBEq]
      refine .done (hK _ ?_); clear hK K; simp only [thenQ, blockQ]
      refine AW.ret ?_
      simp only [blockQ, thenQ, bR, Nat.reduceEqDiff, reduceIte, Int.reduceBNe, Int.reduceBEq]
      simp only [typR, e_fin, bR, Nat.reduceEqDiff, reduceIte, Int.reduceBNe, Int.reduceBEq]
      simp [wornR, hw, e_int]
    · cases h
  cases ba
  · refine AW.seq (AW.reg cd19_2 fun K hK => ?_)
    simp only [g19_2, bR, Nat.reduceEqDiff, reduceIte, Int.reduceBNe, Int.reduceBEq]
    refine .done (hK _ ?_); clear hK K; simp only [thenQ, blockQ]
    refine AW.ite ?_
    simp only [condQ, bR, Nat.reduceEqDiff, reduceIte, Int.reduceBNe, Int.reduceBEq]
    refine ⟨fun h => ?_, fun h => ?_⟩
    · refine AW.seq (AW.reg cd19_3 fun K hK => ?_)
      simp only [g19_3, bR, Nat.reduceEqDiff, reduceIte, Int.reduceBNe, Int.reduceBEq]
      simp only [setParts, e_zero6, stR3_6, bR, Nat.reduceEqDiff, reduceIte, Int.reduceBNe, Int.reduceBEq]
      refine .done (hK _ ?_); clear hK K; simp only [thenQ, blockQ]
      refine AW.ret ?_
      simp only [blockQ, thenQ, bR, Nat.reduceEqDiff, reduceIte, Int.reduceBNe, Int.reduceBEq]
      simp only [typR, e_fin, bR, Nat.reduceEqDiff, reduceIte, Int.reduceBNe, Int.reduceBEq]
      simp [wornR, hw, ha, e_int]
    · cases h
  refine AW.seq (AW.reg cd19_2 fun K hK => ?_)
  simp only [g19_2, bR, Nat.reduceEqDiff, reduceIte, Int.reduceBNe, Int.reduceBEq]
  refine .done (hK _ ?_); clear hK K; simp only [thenQ, blockQ]
  refine AW.ite ?_
  simp only [condQ, bR, Nat.reduceEqDiff, reduceIte, Int.reduceBNe, Int.reduceBEq]
  refine ⟨fun h => ?_, fun h => ?_⟩
  · cases h
  refine AW.skip ?_; simp only [thenQ, blockQ, reduceIte, Nat.reduceEqDiff]
  refine AW.seq (AW.reg cd19_4 fun K hK => ?_)
  simp only [g19_4, bR, Nat.reduceEqDiff, reduceIte, Int.reduceBNe, Int.reduceBEq]
  refine .done (hK _ ?_); clear hK K; simp only [thenQ, blockQ]
  refine AW.seq ?_
  refine AW.seq (AW.reg cd19_5 fun K hK => ?_)
  simp only [g19_5, bR, Nat.reduceEqDiff, reduceIte, Int.reduceBNe, Int.reduceBEq]
  refine .done (hK _ ?_); clear hK K; simp only [thenQ, blockQ]
  refine AW.block (AW.loop (fun i : Nat => mkA [(2, enc cuts), (3, .ptr 3 []), (4, .ptr 4 []), (6, .ptr 6 []), (9, .ptr 9 []), (23, .int .i64 i)] [(3, .box (enc w)), (4, .box (enc a)), (6, .box (enc zero6)), (9, .box (enc (wornUp w a cuts i)))]) (fun i => i ≤ 6) (fun i => 6 - i) 0 (by omega) ?_ (fun i hi => ?_))
  · simp only [e_zero6, wornUp]
    refine Sub.of_lists ?_ ?_ ?_ ?_ <;> simp [subT, subO, onlyT, onlyO, isIn, look_cons, lookO_cons, lookO_nil, AV.only, AV.onlys, AO.only, onlys_map, onlys_append, e_only, e_int, e_bool]
  refine AW.seq (AW.reg cd19_6 fun K hK => ?_)
  simp only [g19_6, bR, Nat.reduceEqDiff, reduceIte, Int.reduceBNe, Int.reduceBEq]
  refine .done (hK _ ?_); clear hK K; simp only [thenQ, blockQ]
  refine AW.seq ?_
  refine AW.ite ?_
  simp only [condQ, bR, Nat.reduceEqDiff, reduceIte, Int.reduceBNe, Int.reduceBEq]
  refine ⟨fun h => ?_, fun h => ?_⟩
  · have hi6 : i < 6 := by simp at h; omega
    refine AW.skip ?_; simp only [thenQ, blockQ, reduceIte, Nat.reduceEqDiff]
    refine AW.seq (AW.block ?_)
    refine AW.seq (AW.reg cd19_7 fun K hK => ?_)
    simp only [g19_7, bR, Nat.reduceEqDiff, reduceIte, Int.reduceBNe, Int.reduceBEq]
    refine .done (hK _ ?_); clear hK K; simp only [thenQ, blockQ]
    refine AW.seq (AW.reg cd19_8 fun K hK => ?_)
    simp only [g19_8, bR, Nat.reduceEqDiff, reduceIte, Int.reduceBNe, Int.reduceBEq]
    try simp only [typR, useR, okR, e_fin, bR, Nat.reduceEqDiff, reduceIte, Int.reduceBNe, Int.reduceBEq]
    have h1 := okMark_at ha hi6
    have h2 := okWear_at hw (show (a.g i).toNat < 5 by omega)
    refine .flat _ (F77 w a i hi6 h1.1 h1.2) rfl ?_
    try simp only [typR, useR, okR, e_fin, bR, Nat.reduceEqDiff, reduceIte, Int.reduceBNe, Int.reduceBEq]
    refine .lead _ (F81 (w.g (a.g i).toNat) h2.1.1 h2.1.2) ?_
    try simp only [typR, useR, okR, e_fin, bR, Nat.reduceEqDiff, reduceIte, Int.reduceBNe, Int.reduceBEq]
    refine .done (hK _ ?_); clear hK K; simp only [thenQ, blockQ]
    have hL : signs w a i = members (w.g (a.g i).toNat) 5 := rfl
    rw [← hL]
    have hL5 : (signs w a i).length ≤ 5 := members_le _ 5
    have hL0 : 0 < (signs w a i).length := List.length_pos_of_mem (members_mem h2.2 5 (by omega))
    have hLn : ¬ ((signs w a i).length : Int) = 0 := by omega
    have hLi : ∀ x ∈ signs w a i, 0 ≤ x ∧ x < (5 : Nat) := members_in 5
    have hV : wornV w a cuts i = shl 1 ((signs w a i).getD (cutAt cuts i (signs w a i).length) 0).toNat := rfl
    have hcl := cutAt_lt cuts i hL0
    generalize hLL : signs w a i = L at hL5 hL0 hLn hLi hV hcl ⊢
    refine AW.seq (AW.reg cd19_9 fun K hK => ?_)
    simp only [g19_9, bR, Nat.reduceEqDiff, reduceIte, Int.reduceBNe, Int.reduceBEq]
    refine .done (hK _ ?_); clear hK K; simp only [thenQ, blockQ]
    refine AW.seq ?_
    refine AW.via (mkA [(2, enc cuts), (3, .ptr 3 []), (4, .ptr 4 []), (6, .ptr 6 []), (9, .ptr 9 []), (10, .int .i64 i), (11, enc L), (12, .int .i64 (cutAt cuts i L.length)), (23, .int .i64 i)] [(3, .box (enc w)), (4, .box (enc a)), (6, .box (enc zero6)), (9, .box (enc (wornUp w a cuts i)))]) ?_ fun B hB => ?_
    · refine AW.seq (AW.reg cd19_10 fun K hK => ?_)
      simp only [g19_10, bR, Nat.reduceEqDiff, reduceIte, Int.reduceBNe, Int.reduceBEq]
      try simp only [typR, useR, okR, e_fin, bR, Nat.reduceEqDiff, reduceIte, Int.reduceBNe, Int.reduceBEq]
      refine .done (hK _ ?_); clear hK K; simp only [thenQ, blockQ]
      refine AW.ite ?_
      simp only [condQ, bR, Nat.reduceEqDiff, reduceIte, Int.reduceBNe, Int.reduceBEq]
      refine ⟨fun h => ?_, fun h => ?_⟩
      · have hcp : 0 < cuts.length := by simpa using h
        have hcn : ¬ (cuts.length : Int) = 0 := by omega
        have hm : (i : Int).tmod cuts.length = ((i % cuts.length : Nat) : Int) := Int.ofNat_tmod i cuts.length
        have hml : i % cuts.length < cuts.length := Nat.mod_lt _ hcp
        refine AW.reg cd19_11 fun K hK => ?_
        simp only [g19_11, bR, Nat.reduceEqDiff, reduceIte, Int.reduceBNe, Int.reduceBEq]
        simp only [hcn, hm, isE_getD hml, hLn, typR, useR, okR, bR, Nat.reduceEqDiff, reduceIte, Int.reduceBNe, Int.reduceBEq]
        refine .done (hK _ ?_); clear hK K; simp only [thenQ, blockQ]
        generalize hx : cuts.getD (i % cuts.length) 0 = x
        have b1 := Int.tmod_lt_of_pos x (show (0 : Int) < L.length by omega)
        have b2 : -(L.length : Int) < x.tmod L.length := by
          have := Int.tmod_lt_of_pos (-x) (show (0 : Int) < L.length by omega)
          rw [Int.neg_tmod] at this; omega
        have b3 : 0 ≤ (x.tmod L.length + L.length).tmod L.length := Int.tmod_nonneg _ (by omega)
        have hcut : ((cutAt cuts i L.length : Nat) : Int) = (x.tmod L.length + L.length).tmod L.length := by
          simp only [cutAt, if_pos hcp, hx]; omega
        rw [wrap_id _ (by omega) (by omega), ← hcut]
        refine Sub.of_lists ?_ ?_ ?_ ?_ <;> simp [subT, subO, onlyT, onlyO, isIn, look_cons, lookO_cons, lookO_nil, AV.only, AV.onlys, AO.only, onlys_map, onlys_append, e_only, e_int, e_bool]
      · have hcp : cuts.length = 0 := by simpa using h
        refine AW.skip ?_; simp only [thenQ, blockQ, reduceIte, Nat.reduceEqDiff]
        have : cutAt cuts i L.length = 0 := by simp [cutAt, hcp]
        rw [this]
        refine Sub.of_lists ?_ ?_ ?_ ?_ <;> simp [subT, subO, onlyT, onlyO, isIn, look_cons, lookO_cons, lookO_nil, AV.only, AV.onlys, AO.only, onlys_map, onlys_append, e_only, e_int, e_bool]
    simp only [thenQ, blockQ]
    refine AW.sub hB ?_
    have hin := hLi (L.getD (cutAt cuts i L.length) 0) (by rw [List.getD_eq_getElem?_getD, List.getElem?_eq_getElem hcl]; exact List.getElem_mem hcl)
    refine AW.reg cd19_12 fun K hK => ?_
    simp only [g19_12, bR, Nat.reduceEqDiff, reduceIte, Int.reduceBNe, Int.reduceBEq]
    simp only [isE_getD hcl, typR, useR, okR, bR, Nat.reduceEqDiff, reduceIte, Int.reduceBNe, Int.reduceBEq]
    have hsh : IntKind.i64.wrap (1 * 2 ^ min (L.getD (cutAt cuts i L.length) 0).toNat IntKind.i64.bits) = wornV w a cuts i := hV.symm
    rw [if_pos hin.1, hsh]
    simp only [typR, useR, okR, inB_nat 1 (wornUp w a cuts i) hi6 rfl, atL_g (wornUp w a cuts i) hi6, get_g (wornUp w a cuts i) hi6, stR3_g (wornUp w a cuts i) hi6, bR, Nat.reduceEqDiff, reduceIte, Int.reduceBNe, Int.reduceBEq]
    refine .done (hK _ ?_); clear hK K; simp only [thenQ, blockQ]
    refine AW.reg cd19_13 fun K hK => ?_
    simp only [g19_13, bR, Nat.reduceEqDiff, reduceIte, Int.reduceBNe, Int.reduceBEq]
    refine .done (hK _ ?_); clear hK K; simp only [thenQ, blockQ]
    refine ⟨i + 1, by omega, by omega, ?_⟩
    rw [wrap_id _ (by omega) (by omega), wornUp]
    refine Sub.of_lists ?_ ?_ ?_ ?_ <;> simp [subT, subO, onlyT, onlyO, isIn, look_cons, lookO_cons, lookO_nil, AV.only, AV.onlys, AO.only, onlys_map, onlys_append, e_only, e_int, e_bool]
  · have h6 : i = 6 := by simp at h; omega
    subst h6
    refine AW.exit ?_; simp only [thenQ, blockQ, reduceIte, Nat.reduceEqDiff]
    refine AW.seq (AW.reg cd19_14 fun K hK => ?_)
    simp only [g19_14, bR, Nat.reduceEqDiff, reduceIte, Int.reduceBNe, Int.reduceBEq]
    simp only [typR, stR3_6, bR, Nat.reduceEqDiff, reduceIte, Int.reduceBNe, Int.reduceBEq]
    refine .done (hK _ ?_); clear hK K; simp only [thenQ, blockQ]
    refine AW.ret ?_
    simp only [blockQ, thenQ, bR, Nat.reduceEqDiff, reduceIte, Int.reduceBNe, Int.reduceBEq]
    simp only [typR, e_fin, bR, Nat.reduceEqDiff, reduceIte, Int.reduceBNe, Int.reduceBEq]
    simp [wornR, hw, ha, e_int]

end Go.Proofs.Ytkjkbpgdpnapfaa

/-
  THE LAW's OWN CHECK OF THE BOOK IT KNOWS, BY CONTRACT: sane.
-/
namespace Go.Proofs.Ytkjkbpgdpnapfaa
open Go Go.Abs
open Go.Abs.Enc (enc)

def rd1 : Arr 6 Int := a6 31 1 1 1 1 31
def wn1 : Arr 6 Int := a6 16 1 1 1 1 1
theorem sOwn : ownersOf bookM rd1 = ([1, 2, 3], 0) := by decide +kernel
theorem sLook : lookOf bookM rd1 = ([0], 0) := by decide +kernel
theorem sLooked : lookedOf bookM rd1 wn1 [0] = ([3], 0) := by decide +kernel
theorem sDist : distR bookM.wear (a6 2 1 0 0 0 0) (a6 3 2 0 0 0 0) = (2, 0) := by decide +kernel
theorem sWorn1 : (wornR bookM.wear (a6 3 1 0 0 0 0) [1, 0]).1 = wn1 := arr_ext (by decide +kernel)
theorem sWorn2 : (wornR bookM.wear (a6 3 1 0 0 0 0) [1, 0]).2 = 0 := by decide +kernel
theorem sNextK : nextK bookM = some 2 := find_range _ (by omega) (by decide +kernel) (fun j hj => by
  match j, hj with
  | 0, _ => decide +kernel
  | 1, _ => decide +kernel
  | n + 2, h => exact absurd h (by omega))
theorem sNext1 : (nextOf bookM).1 = a6 0 0 0 0 0 2 := by
  have h1 : okM bookM = true := by decide +kernel
  have h2 : ¬ bookM.given.length = 40 := by decide +kernel
  simp only [nextOf, h1, if_true, if_neg h2, sNextK]
  exact arr_ext (by decide +kernel)
theorem sNext2 : (nextOf bookM).2 = 0 := by
  have h1 : okM bookM = true := by decide +kernel
  have h2 : ¬ bookM.given.length = 40 := by decide +kernel
  simp only [nextOf, h1, if_true, if_neg h2, sNextK]

theorem F21 : Ctr Try.prog 21 [] (enc true) := by
  refine Ctr.mk' Try.func21 ca21 cc21 cr21 (Nat.le_of_ble_eq_true rfl) (fun hwf W0 D0 E1 => ?_)
  simp only [c21, r21, idx, Nat.zero_add, Nat.reduceAdd]
  refine AW.seq (AW.reg cd21_0 fun K hK => ?_)
  simp only [g21_0, bR, Nat.reduceEqDiff, reduceIte, Int.reduceBNe, Int.reduceBEq]
  refine .done (hK _ ?_); clear hK K; simp only [thenQ, blockQ]
  refine AW.seq (AW.reg cd21_1 fun K hK => ?_)
  simp only [g21_1, bR, Nat.reduceEqDiff, reduceIte, Int.reduceBNe, Int.reduceBEq]
  refine .lead _ F82 ?_
  simp only [e_a5, bR, Nat.reduceEqDiff, reduceIte, Int.reduceBNe, Int.reduceBEq]
  rw [stR3_ok (e_isVal _) (by rw [e_okS]; rfl) ((e_sh _).trans rfl)]
  simp only [setAt_nil, bR, Nat.reduceEqDiff, reduceIte, Int.reduceBNe, Int.reduceBEq]
  refine .done (hK _ ?_); clear hK K; simp only [thenQ, blockQ]
  refine AW.seq (AW.reg cd21_2 fun K hK => ?_)
  simp only [g21_2, bR, Nat.reduceEqDiff, reduceIte, Int.reduceBNe, Int.reduceBEq]
  simp only [bld6, e_a6, stR3_6, bR, Nat.reduceEqDiff, reduceIte, Int.reduceBNe, Int.reduceBEq]
  refine .done (hK _ ?_); clear hK K; simp only [thenQ, blockQ]
  refine AW.seq (AW.reg cd21_3 fun K hK => ?_)
  simp only [g21_3, bR, Nat.reduceEqDiff, reduceIte, Int.reduceBNe, Int.reduceBEq]
  try simp only [typR, useR, okR, e_fin, bR, Nat.reduceEqDiff, reduceIte, Int.reduceBNe, Int.reduceBEq]
  refine .lead _ (F26 bookM rd1) ?_
  simp only [sOwn, typR, bR, Nat.reduceEqDiff, reduceIte, Int.reduceBNe, Int.reduceBEq]
  refine .done (hK _ ?_); clear hK K; simp only [thenQ, blockQ]
  refine AW.seq (AW.reg cd21_4 fun K hK => ?_)
  simp only [g21_4, bR, Nat.reduceEqDiff, reduceIte, Int.reduceBNe, Int.reduceBEq]
  try simp only [typR, useR, okR, e_fin, bR, Nat.reduceEqDiff, reduceIte, Int.reduceBNe, Int.reduceBEq]
  refine .lead _ (F12 bookM rd1) ?_
  simp only [sLook, typR, bR, Nat.reduceEqDiff, reduceIte, Int.reduceBNe, Int.reduceBEq]
  refine .done (hK _ ?_); clear hK K; simp only [thenQ, blockQ]
  refine AW.seq (AW.reg cd21_5 fun K hK => ?_)
  simp only [g21_5, bR, Nat.reduceEqDiff, reduceIte, Int.reduceBNe, Int.reduceBEq]
  simp only [typR, useR, okR, e_fin, bld6, e_a6, bR, Nat.reduceEqDiff, reduceIte, Int.reduceBNe, Int.reduceBEq]
  refine .lead _ (F14 bookM rd1 wn1 [0]) ?_
  simp only [sLooked, typR, bR, Nat.reduceEqDiff, reduceIte, Int.reduceBNe, Int.reduceBEq]
  refine .done (hK _ ?_); clear hK K; simp only [thenQ, blockQ]
  refine AW.seq (AW.reg cd21_6 fun K hK => ?_)
  simp only [g21_6, bR, Nat.reduceEqDiff, reduceIte, Int.reduceBNe, Int.reduceBEq]
  try simp only [typR, useR, okR, e_fin, bR, Nat.reduceEqDiff, reduceIte, Int.reduceBNe, Int.reduceBEq]
  refine .lead _ (F55 bookM) ?_
  simp only [sNext1, sNext2, typR, e_a6, stR3_6, bR, Nat.reduceEqDiff, reduceIte, Int.reduceBNe, Int.reduceBEq]
  refine .done (hK _ ?_); clear hK K; simp only [thenQ, blockQ]
  refine AW.seq (AW.reg cd21_7 fun K hK => ?_)
  simp only [g21_7, bR, Nat.reduceEqDiff, reduceIte, Int.reduceBNe, Int.reduceBEq]
  simp only [typR, useR, okR, e_fin, bld6, e_a6, bR, Nat.reduceEqDiff, reduceIte, Int.reduceBNe, Int.reduceBEq]
  refine .lead _ (F36 bookM.wear (a6 2 1 0 0 0 0) (a6 3 2 0 0 0 0)) ?_
  simp only [sDist, typR, bR, Nat.reduceEqDiff, reduceIte, Int.reduceBNe, Int.reduceBEq]
  refine .done (hK _ ?_); clear hK K; simp only [thenQ, blockQ]
  refine AW.seq (AW.reg cd21_8 fun K hK => ?_)
  simp only [g21_8, bR, Nat.reduceEqDiff, reduceIte, Int.reduceBNe, Int.reduceBEq]
  simp only [typR, useR, okR, e_fin, bld6, e_a6, bs2, bR, Nat.reduceEqDiff, reduceIte, Int.reduceBNe, Int.reduceBEq]
  refine .lead _ (F19 bookM.wear (a6 3 1 0 0 0 0) [1, 0]) ?_
  simp only [sWorn1, sWorn2, typR, e_a6, stR3_6, bR, Nat.reduceEqDiff, reduceIte, Int.reduceBNe, Int.reduceBEq]
  refine .done (hK _ ?_); clear hK K; simp only [thenQ, blockQ]
  refine AW.seq (AW.reg cd21_9 fun K hK => ?_)
  simp only [g21_9, bR, Nat.reduceEqDiff, reduceIte, Int.reduceBNe, Int.reduceBEq]
  try simp only [typR, useR, okR, e_fin, bR, Nat.reduceEqDiff, reduceIte, Int.reduceBNe, Int.reduceBEq]
  refine .done (hK _ ?_); clear hK K; simp only [thenQ, blockQ]
  refine AW.seq (AW.reg cd21_10 fun K hK => ?_)
  simp only [g21_10, bR, Nat.reduceEqDiff, reduceIte, Int.reduceBNe, Int.reduceBEq]
  simp only [typR, useR, okR, e_fin, bs3, bR, Nat.reduceEqDiff, reduceIte, Int.reduceBNe, Int.reduceBEq]
  refine .flat _ (F16 [1, 2, 3] [1, 2, 3]) rfl ?_
  simp only [typR, useR, okR, e_fin, decide_true, bR, Nat.reduceEqDiff, reduceIte, Int.reduceBNe, Int.reduceBEq]
  refine .flat _ (F16 [0] [0]) rfl ?_
  simp only [typR, useR, okR, e_fin, decide_true, bR, Nat.reduceEqDiff, reduceIte, Int.reduceBNe, Int.reduceBEq]
  refine .flat _ (F16 [3] [3]) rfl ?_
  simp only [typR, useR, okR, e_fin, decide_true, bld6, e_a6, eqE_arr, bR, Nat.reduceEqDiff, reduceIte, Int.reduceBNe, Int.reduceBEq]
  refine .done (hK _ ?_); clear hK K; simp only [thenQ, blockQ]
  refine AW.ret ?_
  simp only [blockQ, thenQ, bR, Nat.reduceEqDiff, reduceIte, Int.reduceBNe, Int.reduceBEq]
  rfl

end Go.Proofs.Ytkjkbpgdpnapfaa

/-
  THE LAW MarkChecks BY CONTRACT.
-/
namespace Go.Proofs.Ytkjkbpgdpnapfaa
open Go Go.Abs
open Go.Abs.Enc (enc)

theorem F8 (m : Marks) (g : Given) (r : Arr 6 Int) : Ctr Try.prog 8 [enc m, enc g, enc r] (enc true) := by
  refine Ctr.mk' Try.func8 ca8 cc8 cr8 (Nat.le_of_ble_eq_true rfl) (fun hwf W0 D0 E1 => ?_)
  simp only [c8, r8, idx, Nat.zero_add, Nat.reduceAdd]
  refine AW.seq (AW.reg cd8_0 fun K hK => ?_)
  simp only [g8_0, bR, Nat.reduceEqDiff, reduceIte, Int.reduceBNe, Int.reduceBEq]
  simp only [e_isVal, bR, Nat.reduceEqDiff, reduceIte, Int.reduceBNe, Int.reduceBEq]
  refine .done (hK _ ?_); clear hK K; simp only [thenQ, blockQ]
  refine AW.seq (AW.reg cd8_1 fun K hK => ?_)
  simp only [g8_1, bR, Nat.reduceEqDiff, reduceIte, Int.reduceBNe, Int.reduceBEq]
  try simp only [typR, useR, okR, e_fin, bR, Nat.reduceEqDiff, reduceIte, Int.reduceBNe, Int.reduceBEq]
  refine .lead _ (F39 m g.owner) ?_
  simp only [typR, e_a6, stR3_6, bR, Nat.reduceEqDiff, reduceIte, Int.reduceBNe, Int.reduceBEq]
  refine .done (hK _ ?_); clear hK K; simp only [thenQ, blockQ]
  refine AW.seq (AW.reg cd8_2 fun K hK => ?_)
  simp only [g8_2, bR, Nat.reduceEqDiff, reduceIte, Int.reduceBNe, Int.reduceBEq]
  try simp only [typR, useR, okR, e_fin, bR, Nat.reduceEqDiff, reduceIte, Int.reduceBNe, Int.reduceBEq]
  refine .lead _ (F40 m g.owner) ?_
  simp only [typR, e_a6, stR3_6, bR, Nat.reduceEqDiff, reduceIte, Int.reduceBNe, Int.reduceBEq]
  refine .done (hK _ ?_); clear hK K; simp only [thenQ, blockQ]
  refine AW.seq (AW.reg cd8_3 fun K hK => ?_)
  simp only [g8_3, bR, Nat.reduceEqDiff, reduceIte, Int.reduceBNe, Int.reduceBEq]
  simp only [typR, useR, okR, e_fin, eqE_arr, decide_true, BEq.rfl, bR, Nat.reduceEqDiff, reduceIte, Int.reduceBNe, Int.reduceBEq]
  refine .flat _ (F41 g.mark) rfl ?_
  simp only [typR, useR, okR, e_fin, eqE_arr, decide_true, BEq.rfl, bR, Nat.reduceEqDiff, reduceIte, Int.reduceBNe, Int.reduceBEq]
  refine .flat _ (F42' g.mark) rfl ?_
  simp only [typR, useR, okR, e_fin, eqE_arr, decide_true, BEq.rfl, bR, Nat.reduceEqDiff, reduceIte, Int.reduceBNe, Int.reduceBEq]
  refine .flat _ (F43 m.wear) rfl ?_
  simp only [typR, useR, okR, e_fin, eqE_arr, decide_true, BEq.rfl, bR, Nat.reduceEqDiff, reduceIte, Int.reduceBNe, Int.reduceBEq]
  refine .flat _ (F44' m.wear) rfl ?_
  simp only [typR, useR, okR, e_fin, eqE_arr, decide_true, BEq.rfl, bR, Nat.reduceEqDiff, reduceIte, Int.reduceBNe, Int.reduceBEq]
  refine .flat _ (F45 r) rfl ?_
  simp only [typR, useR, okR, e_fin, eqE_arr, decide_true, BEq.rfl, bR, Nat.reduceEqDiff, reduceIte, Int.reduceBNe, Int.reduceBEq]
  refine .flat _ (F46' r) rfl ?_
  simp only [typR, useR, okR, e_fin, eqE_arr, decide_true, BEq.rfl, bR, Nat.reduceEqDiff, reduceIte, Int.reduceBNe, Int.reduceBEq]
  refine .flat _ (F47 m) rfl ?_
  simp only [typR, useR, okR, e_fin, eqE_arr, decide_true, BEq.rfl, bR, Nat.reduceEqDiff, reduceIte, Int.reduceBNe, Int.reduceBEq]
  refine .flat _ (F48 m) rfl ?_
  simp only [typR, useR, okR, e_fin, eqE_arr, decide_true, BEq.rfl, bR, Nat.reduceEqDiff, reduceIte, Int.reduceBNe, Int.reduceBEq]
  refine .flat _ F21 rfl ?_
  simp only [typR, useR, okR, e_fin, eqE_arr, decide_true, BEq.rfl, bR, Nat.reduceEqDiff, reduceIte, Int.reduceBNe, Int.reduceBEq]
  refine .done (hK _ ?_); clear hK K; simp only [thenQ, blockQ]
  refine AW.ret ?_
  simp only [blockQ, thenQ, bR, Nat.reduceEqDiff, reduceIte, Int.reduceBNe, Int.reduceBEq]

end Go.Proofs.Ytkjkbpgdpnapfaa

/-
  PROVED HERE: the law MarkChecks returns true for every input, and each argument reads afterwards as it read before. Conditions: none beyond the statement's own.
-/
namespace Go.Proofs.Ytkjkbpgdpnapfaa
open Go Go.Abs Go.ChangeShapes Go.WideShapes Go.ChangeAt Go.RowKit
open Go.Abs.Enc (enc)

set_option maxRecDepth 100000 in
theorem markChecks_lifted (os : Os) (started : os.Started) (H : Type) (enc0 : TypeId × Value → H) :
    ReturnsInHanded {} Try.checked os 8 .any (Rows.markChecksSpec.pre6 enc0 Try.prog Try.f8 Rows.markChecksRow.domain false) (Rows.markChecksSpec.post enc0 Try.prog Try.f8 false true false false) := by
  refine returnsInHanded_of_change (C := Try.checked) Try.own started (by kernel_rfl) Try.func8
    (ChangeSpec.witness6 (enc := enc0) (C := Try.checked) false ⟨#[], #[.agg #[.int .i64 0, .int .i64 0, .int .i64 0, .int .i64 0, .int .i64 0, .int .i64 0, .slice none 0 0], .agg #[.int .i64 0, .int .i64 0, .int .i64 0, .int .i64 0, .int .i64 0, .int .i64 0, .int .i64 0], .agg #[.int .i64 0, .int .i64 0, .int .i64 0, .int .i64 0, .int .i64 0, .int .i64 0]], []⟩ 8 (by kernel_rfl) (by kernel_rfl) (by kernel_rfl) (by kernel_rfl)) ?_
  intro W base args ds gs before hval0 hW hcnd _
  have hval : ∀ (j : Nat) t v, Try.f8.params[j]? = some t → args[j]? = some v → Value.okWide Try.prog W .any base t v := hval0
  have hW' := hW
  obtain ⟨p, q, hA0, hV, hbef, hfz, hnd⟩ := hW
  have hA : DataW.TrodAll enc0 Try.prog W 0 (fun _ => true) true Try.f8.params.toList args.toList ds p := hA0
  rw [Try.params8] at hA hval
  obtain ⟨v0, v1, v2, d0, d1, d2, p0, p1, p2, rfl, rfl, rfl, h0, h1, h2⟩ := trodAll_three hA
  obtain ⟨rfl, rfl⟩ := trodVars_none hV
  obtain ⟨m, c0, k0⟩ := open_arg oMarks rfl (by kernel_rfl) (hval 0 26 v0 rfl rfl) h0
  obtain ⟨g, c1, k1⟩ := open_arg oGiven rfl (by kernel_rfl) (hval 1 43 v1 rfl rfl) h1
  obtain ⟨r, c2, k2⟩ := open_arg oReading rfl (by kernel_rfl) (hval 2 28 v2 rfl rfl) h2
  exact law_post (tb := 4) Try.laidOut (by rw [Try.params8]) rfl rfl (by rw [hbef]; simp) rfl rfl (by kernel_rfl) (by kernel_rfl) hW' h0 h1 h2 (by
    intro t ht
    simp only [List.mem_cons, List.mem_nil_iff, or_false] at ht
    rcases ht with rfl | rfl | rfl <;> exact ⟨by kernel_rfl, of_decide_eq_true (by kernel_rfl)⟩) (F8 m g r) (rvs3 ⟨c0, k0⟩ ⟨c1, k1⟩ ⟨c2, k2⟩)

theorem markChecks_holds : Rows.MarkChecksSaid :=
  OpenClaim.holds_of_wide 8 Try.f8 rfl rfl rfl rfl rfl rfl rfl ⟨rfl, rfl, rfl, rfl, rfl⟩ rfl rfl rfl rfl rfl (by kernel_rfl) Try.func8 (by kernel_rfl)
    (of_decide_eq_true (by kernel_rfl)) (by unfold Func.isWrapper; first | (rw [if_pos (by decide +kernel)]; kernel_rfl) | (rw [if_neg (by decide +kernel)]; exact ⟨rfl, rfl⟩))
    (fun os started H enc0 _ => markChecks_lifted os started H enc0)

#print axioms markChecks_holds
end Go.Proofs.Ytkjkbpgdpnapfaa

