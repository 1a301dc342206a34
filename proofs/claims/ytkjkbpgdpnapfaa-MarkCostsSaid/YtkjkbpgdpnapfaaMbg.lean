/-
  FUNCTIONS OF mark BY CONTRACT: Meet.
-/
import Derived.Test.YtkjkbpgdpnapfaaMbf
set_option linter.unusedSimpArgs false
set_option linter.unusedVariables false
namespace Go.Proofs.Ytkjkbpgdpnapfaa
open Go Go.Abs
open Go.Abs.Enc (enc)

def one (l : List Int) : Int := shl 1 (l.getD 0 0).toNat
def sg (w : Arr 5 Int) (a : Arr 6 Int) (i : Nat) : Int := w.g (a.g i).toNat
def meetStep (w : Arr 5 Int) (a b : Arr 6 Int) (s : Arr 6 Int × Nat) (i : Nat) : Arr 6 Int × Nat :=
  if band (sg w a i) (sg w b i) != 0 then (upd s.1 i (one (members (band (sg w a i) (sg w b i)) 5)), s.2) else if s.2 % 2 = 0 then (upd s.1 i (one (members (sg w a i) 5)), s.2 + 1) else (upd s.1 i (one (members (sg w b i) 5)), s.2 + 1)
def meetUp (w : Arr 5 Int) (a b : Arr 6 Int) : Nat → Arr 6 Int × Nat
  | 0 => (zero6, 0)
  | i + 1 => meetStep w a b (meetUp w a b i) i
def meetR (w : Arr 5 Int) (n : Int) (a b : Arr 6 Int) : Arr 6 Int × Int :=
  if okWear w then (if okMark a then (if okMark b then (if inR 0 2 n then (if IntKind.i64.wrap (2 * n) < (cnt (apartAt w a b) 6 : Int) then (zero6, 14) else ((meetUp w a b 6).1, 0)) else (zero6, 1)) else (zero6, 10)) else (zero6, 10)) else (zero6, 11)

theorem meetUp_le (w : Arr 5 Int) (a b : Arr 6 Int) : ∀ i, (meetUp w a b i).2 ≤ i
  | 0 => Nat.le_refl _
  | i + 1 => by
    have := meetUp_le w a b i
    simp only [meetUp, meetStep]
    split
    · simp only; omega
    · split <;> simp only <;> omega
theorem band_in (x y : Int) (hx : 0 ≤ x ∧ x ≤ 31) (hy : 0 ≤ y ∧ y ≤ 31) : 0 ≤ band x y ∧ band x y ≤ 31 := by
  have key : ∀ x y : Fin 32, 0 ≤ band (x.1 : Int) (y.1 : Int) ∧ band (x.1 : Int) (y.1 : Int) ≤ 31 := by decide +kernel
  have := key ⟨x.toNat, by omega⟩ ⟨y.toNat, by omega⟩
  simp only [show ((x.toNat : Nat) : Int) = x by omega, show ((y.toNat : Nat) : Int) = y by omega] at this
  exact this
theorem members_pos (x : Int) (hx : 0 ≤ x ∧ x ≤ 31) (h0 : x ≠ 0) : 0 < (members x 5).length := by
  have key : ∀ x : Fin 32, (x.1 : Int) ≠ 0 → 0 < (members (x.1 : Int) 5).length := by decide +kernel
  have := key ⟨x.toNat, by omega⟩ (by simp only; omega)
  simp only [show ((x.toNat : Nat) : Int) = x by omega] at this
  exact this
theorem bit_ne {x : Int} {k : Nat} (hx : 0 ≤ x ∧ x ≤ 31) (hk : k < 5) (h : bit x k = true) : x ≠ 0 := by
  rintro rfl
  have key : ∀ k : Fin 5, bit 0 k.1 = false := by decide +kernel
  rw [key ⟨k, hk⟩] at h; cases h
theorem isE0 {A : AState} {l : List Int} (h : 0 < l.length) : isE A 1 0 (enc l) = some (.ref (.int .i64 (l.getD 0 0))) := isE_getD (i := 0) h
theorem getD0_in {x : Int} (h : 0 < (members x 5).length) : 0 ≤ (members x 5).getD 0 0 ∧ (members x 5).getD 0 0 < 5 := by
  have : (members x 5).getD 0 0 ∈ members x 5 := by
    rw [List.getD_eq_getElem?_getD, List.getElem?_eq_getElem h]; exact List.getElem_mem h
  have := members_in 5 _ this
  omega

theorem F38 (w : Arr 5 Int) (n : Int) (a b : Arr 6 Int) : Ctr Try.prog 38 [enc w, enc n, enc a, enc b] (.tuple [enc (meetR w n a b).1, enc (meetR w n a b).2]) := by
  refine Ctr.mk' Try.func38 ca38 cc38 cr38 (Nat.le_of_ble_eq_true rfl) (fun hwf W0 D0 E1 => ?_)
  simp only [c38, r38, idx, Nat.zero_add, Nat.reduceAdd]
  refine AW.seq (AW.reg cd38_0 fun K hK => ?_)
  simp only [g38_0, bR, Nat.reduceEqDiff, reduceIte, Int.reduceBNe, Int.reduceBEq]
  simp only [e_isVal, e_zero6, bR, Nat.reduceEqDiff, reduceIte, Int.reduceBNe, Int.reduceBEq]
  refine .done (hK _ ?_); clear hK K; simp only [thenQ, blockQ]
  refine AW.seq ?_
  refine AW.seq (AW.reg cd38_1 fun K hK => ?_)
  simp only [g38_1, bR, Nat.reduceEqDiff, reduceIte, Int.reduceBNe, Int.reduceBEq]
  try simp only [typR, useR, okR, e_fin, bR, Nat.reduceEqDiff, reduceIte, Int.reduceBNe, Int.reduceBEq]
  refine .flat _ (F43 w) rfl ?_
  try simp only [typR, useR, okR, e_fin, bR, Nat.reduceEqDiff, reduceIte, Int.reduceBNe, Int.reduceBEq]
  refine .flat _ (F41 a) rfl ?_
  try simp only [typR, useR, okR, e_fin, bR, Nat.reduceEqDiff, reduceIte, Int.reduceBNe, Int.reduceBEq]
  refine .flat _ (F41 b) rfl ?_
  simp only [typR, useR, okR, e_fin, bs3, bR, Nat.reduceEqDiff, reduceIte, Int.reduceBNe, Int.reduceBEq]
  refine .flat _ (F64 _) rfl ?_
  rw [first3 _ _ _ 11 10 10 (by decide) (by decide) (by decide)]
  simp only [bR, Nat.reduceEqDiff, reduceIte, Int.reduceBNe, Int.reduceBEq]
  refine .done (hK _ ?_); clear hK K; simp only [thenQ, blockQ]
  generalize hw : okWear w = bw
  generalize ha : okMark a = ba
  generalize hb : okMark b = bb
  cases bw
  · refine AW.seq (AW.reg cd38_2 fun K hK => ?_)
    simp only [g38_2, bR, Nat.reduceEqDiff, reduceIte, Int.reduceBNe, Int.reduceBEq]
    refine .done (hK _ ?_); clear hK K; simp only [thenQ, blockQ]
    refine AW.ite ?_
    simp only [condQ, bR, Nat.reduceEqDiff, reduceIte, Int.reduceBNe, Int.reduceBEq]
    refine ⟨fun h => ?_, fun h => ?_⟩
    · refine AW.seq (AW.reg cd38_3 fun K hK => ?_)
      simp only [g38_3, bR, Nat.reduceEqDiff, reduceIte, Int.reduceBNe, Int.reduceBEq]
      simp only [setParts, e_zero6, stR3_6, bR, Nat.reduceEqDiff, reduceIte, Int.reduceBNe, Int.reduceBEq]
      refine .done (hK _ ?_); clear hK K; simp only [thenQ, blockQ]
      refine AW.ret ?_
      simp only [blockQ, thenQ, bR, Nat.reduceEqDiff, reduceIte, Int.reduceBNe, Int.reduceBEq]
      simp only [typR, e_fin, bR, Nat.reduceEqDiff, reduceIte, Int.reduceBNe, Int.reduceBEq]
      simp [meetR, hw, e_int]
    · cases h
  cases ba
  · refine AW.seq (AW.reg cd38_2 fun K hK => ?_)
    simp only [g38_2, bR, Nat.reduceEqDiff, reduceIte, Int.reduceBNe, Int.reduceBEq]
    refine .done (hK _ ?_); clear hK K; simp only [thenQ, blockQ]
    refine AW.ite ?_
    simp only [condQ, bR, Nat.reduceEqDiff, reduceIte, Int.reduceBNe, Int.reduceBEq]
    refine ⟨fun h => ?_, fun h => ?_⟩
    · refine AW.seq (AW.reg cd38_3 fun K hK => ?_)
      simp only [g38_3, bR, Nat.reduceEqDiff, reduceIte, Int.reduceBNe, Int.reduceBEq]
      simp only [setParts, e_zero6, stR3_6, bR, Nat.reduceEqDiff, reduceIte, Int.reduceBNe, Int.reduceBEq]
      refine .done (hK _ ?_); clear hK K; simp only [thenQ, blockQ]
      refine AW.ret ?_
      simp only [blockQ, thenQ, bR, Nat.reduceEqDiff, reduceIte, Int.reduceBNe, Int.reduceBEq]
      simp only [typR, e_fin, bR, Nat.reduceEqDiff, reduceIte, Int.reduceBNe, Int.reduceBEq]
      simp [meetR, hw, ha, e_int]
    · cases h
  cases bb
  · refine AW.seq (AW.reg cd38_2 fun K hK => ?_)
    simp only [g38_2, bR, Nat.reduceEqDiff, reduceIte, Int.reduceBNe, Int.reduceBEq]
    refine .done (hK _ ?_); clear hK K; simp only [thenQ, blockQ]
    refine AW.ite ?_
    simp only [condQ, bR, Nat.reduceEqDiff, reduceIte, Int.reduceBNe, Int.reduceBEq]
    refine ⟨fun h => ?_, fun h => ?_⟩
    · refine AW.seq (AW.reg cd38_3 fun K hK => ?_)
      simp only [g38_3, bR, Nat.reduceEqDiff, reduceIte, Int.reduceBNe, Int.reduceBEq]
      simp only [setParts, e_zero6, stR3_6, bR, Nat.reduceEqDiff, reduceIte, Int.reduceBNe, Int.reduceBEq]
      refine .done (hK _ ?_); clear hK K; simp only [thenQ, blockQ]
      refine AW.ret ?_
      simp only [blockQ, thenQ, bR, Nat.reduceEqDiff, reduceIte, Int.reduceBNe, Int.reduceBEq]
      simp only [typR, e_fin, bR, Nat.reduceEqDiff, reduceIte, Int.reduceBNe, Int.reduceBEq]
      simp [meetR, hw, ha, hb, e_int]
    · cases h
  refine AW.seq (AW.reg cd38_2 fun K hK => ?_)
  simp only [g38_2, bR, Nat.reduceEqDiff, reduceIte, Int.reduceBNe, Int.reduceBEq]
  refine .done (hK _ ?_); clear hK K; simp only [thenQ, blockQ]
  refine AW.ite ?_
  simp only [condQ, bR, Nat.reduceEqDiff, reduceIte, Int.reduceBNe, Int.reduceBEq]
  refine ⟨fun h => ?_, fun h => ?_⟩
  · cases h
  refine AW.skip ?_; simp only [thenQ, blockQ, reduceIte, Nat.reduceEqDiff]
  refine AW.seq ?_
  refine AW.seq (AW.reg cd38_4 fun K hK => ?_)
  simp only [g38_4, bR, Nat.reduceEqDiff, reduceIte, Int.reduceBNe, Int.reduceBEq]
  try simp only [typR, useR, okR, e_fin, bR, Nat.reduceEqDiff, reduceIte, Int.reduceBNe, Int.reduceBEq]
  refine .flat _ (F89 n 0 2) rfl ?_
  generalize hn : inR 0 2 n = bn
  cases bn
  · try simp only [typR, useR, okR, e_fin, bR, Nat.reduceEqDiff, reduceIte, Int.reduceBNe, Int.reduceBEq]
    refine .done (hK _ ?_); clear hK K; simp only [thenQ, blockQ]
    refine AW.ite ?_
    simp only [condQ, bR, Nat.reduceEqDiff, reduceIte, Int.reduceBNe, Int.reduceBEq]
    refine ⟨fun h => ?_, fun h => ?_⟩
    · refine AW.seq (AW.reg cd38_5 fun K hK => ?_)
      simp only [g38_5, bR, Nat.reduceEqDiff, reduceIte, Int.reduceBNe, Int.reduceBEq]
      simp only [setParts, e_zero6, stR3_6, bR, Nat.reduceEqDiff, reduceIte, Int.reduceBNe, Int.reduceBEq]
      refine .done (hK _ ?_); clear hK K; simp only [thenQ, blockQ]
      refine AW.ret ?_
      simp only [blockQ, thenQ, bR, Nat.reduceEqDiff, reduceIte, Int.reduceBNe, Int.reduceBEq]
      simp only [typR, e_fin, bR, Nat.reduceEqDiff, reduceIte, Int.reduceBNe, Int.reduceBEq]
      simp [meetR, hw, ha, hb, hn, e_int]
    · cases h
  try simp only [typR, useR, okR, e_fin, bR, Nat.reduceEqDiff, reduceIte, Int.reduceBNe, Int.reduceBEq]
  refine .done (hK _ ?_); clear hK K; simp only [thenQ, blockQ]
  refine AW.ite ?_
  simp only [condQ, bR, Nat.reduceEqDiff, reduceIte, Int.reduceBNe, Int.reduceBEq]
  refine ⟨fun h => ?_, fun h => ?_⟩
  · cases h
  refine AW.skip ?_; simp only [thenQ, blockQ, reduceIte, Nat.reduceEqDiff]
  refine AW.seq ?_
  refine AW.seq (AW.reg cd38_6 fun K hK => ?_)
  simp only [g38_6, bR, Nat.reduceEqDiff, reduceIte, Int.reduceBNe, Int.reduceBEq]
  try simp only [typR, useR, okR, e_fin, bR, Nat.reduceEqDiff, reduceIte, Int.reduceBNe, Int.reduceBEq]
  refine .flat _ (F87 w a b ha hb) rfl ?_
  try simp only [typR, useR, okR, e_fin, bR, Nat.reduceEqDiff, reduceIte, Int.reduceBNe, Int.reduceBEq]
  refine .done (hK _ ?_); clear hK K; simp only [thenQ, blockQ]
  refine AW.ite ?_
  simp only [condQ, bR, Nat.reduceEqDiff, reduceIte, Int.reduceBNe, Int.reduceBEq]
  refine ⟨fun h => ?_, fun h => ?_⟩
  · refine AW.seq (AW.reg cd38_7 fun K hK => ?_)
    simp only [g38_7, bR, Nat.reduceEqDiff, reduceIte, Int.reduceBNe, Int.reduceBEq]
    simp only [setParts, e_zero6, stR3_6, bR, Nat.reduceEqDiff, reduceIte, Int.reduceBNe, Int.reduceBEq]
    refine .done (hK _ ?_); clear hK K; simp only [thenQ, blockQ]
    refine AW.ret ?_
    simp only [blockQ, thenQ, bR, Nat.reduceEqDiff, reduceIte, Int.reduceBNe, Int.reduceBEq]
    have h2 : IntKind.i64.wrap (2 * n) < (cnt (apartAt w a b) 6 : Int) := by simpa using h
    simp only [typR, e_fin, bR, Nat.reduceEqDiff, reduceIte, Int.reduceBNe, Int.reduceBEq]
    simp [meetR, hw, ha, hb, hn, h2, e_int]
  have h2 : ¬ IntKind.i64.wrap (2 * n) < (cnt (apartAt w a b) 6 : Int) := by simpa using h
  refine AW.skip ?_; simp only [thenQ, blockQ, reduceIte, Nat.reduceEqDiff]
  refine AW.seq (AW.reg cd38_8 fun K hK => ?_)
  simp only [g38_8, bR, Nat.reduceEqDiff, reduceIte, Int.reduceBNe, Int.reduceBEq]
  simp only [e_zero6, bR, Nat.reduceEqDiff, reduceIte, Int.reduceBNe, Int.reduceBEq]
  refine .done (hK _ ?_); clear hK K; simp only [thenQ, blockQ]
  refine AW.seq (AW.reg cd38_9 fun K hK => ?_)
  simp only [g38_9, bR, Nat.reduceEqDiff, reduceIte, Int.reduceBNe, Int.reduceBEq]
  refine .done (hK _ ?_); clear hK K; simp only [thenQ, blockQ]
  refine AW.seq ?_
  refine AW.seq (AW.reg cd38_10 fun K hK => ?_)
  simp only [g38_10, bR, Nat.reduceEqDiff, reduceIte, Int.reduceBNe, Int.reduceBEq]
  refine .done (hK _ ?_); clear hK K; simp only [thenQ, blockQ]
  refine AW.block (AW.loop (fun i : Nat => mkA [(4, .ptr 4 []), (6, .ptr 6 []), (7, .ptr 7 []), (8, .ptr 8 []), (11, .ptr 11 []), (12, .int .i64 (meetUp w a b i).2), (40, .int .i64 i)] [(4, .box (enc w)), (6, .box (enc a)), (7, .box (enc b)), (8, .box (enc zero6)), (11, .box (enc (meetUp w a b i).1))]) (fun i => i ≤ 6) (fun i => 6 - i) 0 (by omega) ?_ (fun i hi => ?_))
  · simp only [meetUp]
    refine Sub.of_lists ?_ ?_ ?_ ?_ <;> simp [subT, subO, onlyT, onlyO, isIn, look_cons, lookO_cons, lookO_nil, AV.only, AV.onlys, AO.only, onlys_map, onlys_append, e_only, e_int, e_bool]
  refine AW.seq (AW.reg cd38_11 fun K hK => ?_)
  simp only [g38_11, bR, Nat.reduceEqDiff, reduceIte, Int.reduceBNe, Int.reduceBEq]
  refine .done (hK _ ?_); clear hK K; simp only [thenQ, blockQ]
  refine AW.seq ?_
  refine AW.ite ?_
  simp only [condQ, bR, Nat.reduceEqDiff, reduceIte, Int.reduceBNe, Int.reduceBEq]
  refine ⟨fun h => ?_, fun h => ?_⟩
  case refine_2.refine_2 =>
    have h6 : i = 6 := by simp at h; omega
    subst h6
    refine AW.exit ?_; simp only [thenQ, blockQ, reduceIte, Nat.reduceEqDiff]
    refine AW.seq (AW.reg cd38_22 fun K hK => ?_)
    simp only [g38_22, bR, Nat.reduceEqDiff, reduceIte, Int.reduceBNe, Int.reduceBEq]
    simp only [typR, stR3_6, bR, Nat.reduceEqDiff, reduceIte, Int.reduceBNe, Int.reduceBEq]
    refine .done (hK _ ?_); clear hK K; simp only [thenQ, blockQ]
    refine AW.ret ?_
    simp only [blockQ, thenQ, bR, Nat.reduceEqDiff, reduceIte, Int.reduceBNe, Int.reduceBEq]
    simp only [typR, e_fin, bR, Nat.reduceEqDiff, reduceIte, Int.reduceBNe, Int.reduceBEq]
    simp [meetR, hw, ha, hb, hn, h2, e_int]
  have hi6 : i < 6 := by simp at h; omega
  have hle := meetUp_le w a b i
  have hs : meetUp w a b (i + 1) = meetStep w a b (meetUp w a b i) i := rfl
  generalize meetUp w a b i = s at hs hle ⊢
  obtain ⟨r, t⟩ := s
  simp only [meetStep] at hs hle ⊢
  have a1 := okMark_at ha hi6
  have b1 := okMark_at hb hi6
  have a2 := okWear_at hw (show (a.g i).toNat < 5 by omega)
  have b2 := okWear_at hw (show (b.g i).toNat < 5 by omega)
  have ax : sg w a i = w.g (a.g i).toNat := rfl
  have bx : sg w b i = w.g (b.g i).toNat := rfl
  have a3 := bit_ne a2.1 (by omega) a2.2
  have b3 := bit_ne b2.1 (by omega) b2.2
  rw [← ax] at a2 a3
  rw [← bx] at b2 b3
  refine AW.skip ?_; simp only [thenQ, blockQ, reduceIte, Nat.reduceEqDiff]
  refine AW.seq (AW.block ?_)
  refine AW.seq (AW.reg cd38_12 fun K hK => ?_)
  simp only [g38_12, bR, Nat.reduceEqDiff, reduceIte, Int.reduceBNe, Int.reduceBEq]
  refine .done (hK _ ?_); clear hK K; simp only [thenQ, blockQ]
  refine AW.seq (AW.reg cd38_13 fun K hK => ?_)
  simp only [g38_13, bR, Nat.reduceEqDiff, reduceIte, Int.reduceBNe, Int.reduceBEq]
  try simp only [typR, useR, okR, e_fin, bR, Nat.reduceEqDiff, reduceIte, Int.reduceBNe, Int.reduceBEq]
  refine .flat _ (F77 w a i hi6 a1.1 a1.2) rfl ?_
  try simp only [typR, useR, okR, e_fin, bR, Nat.reduceEqDiff, reduceIte, Int.reduceBNe, Int.reduceBEq]
  refine .flat _ (F77 w b i hi6 b1.1 b1.2) rfl ?_
  rw [← ax, ← bx]
  generalize sg w a i = x at *
  generalize sg w b i = y at *
  try simp only [typR, useR, okR, e_fin, bR, Nat.reduceEqDiff, reduceIte, Int.reduceBNe, Int.reduceBEq]
  refine .done (hK _ ?_); clear hK K; simp only [thenQ, blockQ]
  refine AW.block ?_
  refine AW.seq (AW.reg cd38_14 fun K hK => ?_)
  simp only [g38_14, bR, Nat.reduceEqDiff, reduceIte, Int.reduceBNe, Int.reduceBEq]
  refine .flat _ (F78 x y) rfl ?_
  generalize hxy : (band x y != 0) = bxy at hs
  have hbi := band_in x y a2.1 b2.1
  cases bxy
  · try simp only [typR, useR, okR, e_fin, bR, Nat.reduceEqDiff, reduceIte, Int.reduceBNe, Int.reduceBEq]
    refine .done (hK _ ?_); clear hK K; simp only [thenQ, blockQ]
    refine AW.ite ?_
    simp only [condQ, bR, Nat.reduceEqDiff, reduceIte, Int.reduceBNe, Int.reduceBEq]
    refine ⟨fun h => ?_, fun h => ?_⟩
    · cases h
    refine AW.seq (AW.reg cd38_16 fun K hK => ?_)
    simp only [g38_16, bR, Nat.reduceEqDiff, reduceIte, Int.reduceBNe, Int.reduceBEq]
    have h20 : ¬ (2 : Int) = 0 := by decide
    have htm : (t : Int).tmod 2 = ((t % 2 : Nat) : Int) := Int.ofNat_tmod t 2
    simp only [h20, htm, bR, Nat.reduceEqDiff, reduceIte, Int.reduceBNe, Int.reduceBEq]
    refine .done (hK _ ?_); clear hK K; simp only [thenQ, blockQ]
    refine AW.ite ?_
    simp only [condQ, bR, Nat.reduceEqDiff, reduceIte, Int.reduceBNe, Int.reduceBEq]
    refine ⟨fun h => ?_, fun h => ?_⟩
    · have ht : t % 2 = 0 := by
        have h' : (((t % 2 : Nat) : Int) == 0) = true := h
        simp at h'; omega
      rw [if_neg (by simp), if_pos ht] at hs
      have hL := members_pos x a2.1 a3
      have hg := getD0_in hL
      refine AW.seq (AW.reg cd38_17 fun K hK => ?_)
      simp only [g38_17, bR, Nat.reduceEqDiff, reduceIte, Int.reduceBNe, Int.reduceBEq]
      try simp only [typR, useR, okR, e_fin, bR, Nat.reduceEqDiff, reduceIte, Int.reduceBNe, Int.reduceBEq]
      refine .lead _ (F81 x a2.1.1 a2.1.2) ?_
      simp only [isE0 hL, typR, useR, okR, bR, Nat.reduceEqDiff, reduceIte, Int.reduceBNe, Int.reduceBEq]
      have ho : IntKind.i64.wrap (1 * 2 ^ min ((members x 5).getD 0 0).toNat IntKind.i64.bits) = one (members x 5) := rfl
      rw [if_pos hg.1, ho]
      simp only [typR, useR, okR, inB_nat 1 r hi6 rfl, atL_g r hi6, get_g r hi6, stR3_g r hi6, bR, Nat.reduceEqDiff, reduceIte, Int.reduceBNe, Int.reduceBEq]
      refine .done (hK _ ?_); clear hK K; simp only [thenQ, blockQ]
      refine AW.reg cd38_18 fun K hK => ?_
      simp only [g38_18, bR, Nat.reduceEqDiff, reduceIte, Int.reduceBNe, Int.reduceBEq]
      refine .done (hK _ ?_); clear hK K; simp only [thenQ, blockQ]
      refine AW.reg cd38_21 fun K hK => ?_
      simp only [g38_21, bR, Nat.reduceEqDiff, reduceIte, Int.reduceBNe, Int.reduceBEq]
      refine .done (hK _ ?_); clear hK K; simp only [thenQ, blockQ]
      refine ⟨i + 1, by omega, by omega, ?_⟩
      rw [hs, wrap_id _ (by omega) (by omega), wrap_id _ (by omega) (by omega)]
      refine Sub.of_lists ?_ ?_ ?_ ?_ <;> simp [subT, subO, onlyT, onlyO, isIn, look_cons, lookO_cons, lookO_nil, AV.only, AV.onlys, AO.only, onlys_map, onlys_append, e_only, e_int, e_bool]
    · have ht : ¬ t % 2 = 0 := by
        have h' : (((t % 2 : Nat) : Int) == 0) = false := h
        simp at h'; omega
      rw [if_neg (by simp), if_neg ht] at hs
      have hL := members_pos y b2.1 b3
      have hg := getD0_in hL
      refine AW.seq (AW.reg cd38_19 fun K hK => ?_)
      simp only [g38_19, bR, Nat.reduceEqDiff, reduceIte, Int.reduceBNe, Int.reduceBEq]
      try simp only [typR, useR, okR, e_fin, bR, Nat.reduceEqDiff, reduceIte, Int.reduceBNe, Int.reduceBEq]
      refine .lead _ (F81 y b2.1.1 b2.1.2) ?_
      simp only [isE0 hL, typR, useR, okR, bR, Nat.reduceEqDiff, reduceIte, Int.reduceBNe, Int.reduceBEq]
      have ho : IntKind.i64.wrap (1 * 2 ^ min ((members y 5).getD 0 0).toNat IntKind.i64.bits) = one (members y 5) := rfl
      rw [if_pos hg.1, ho]
      simp only [typR, useR, okR, inB_nat 1 r hi6 rfl, atL_g r hi6, get_g r hi6, stR3_g r hi6, bR, Nat.reduceEqDiff, reduceIte, Int.reduceBNe, Int.reduceBEq]
      refine .done (hK _ ?_); clear hK K; simp only [thenQ, blockQ]
      refine AW.reg cd38_20 fun K hK => ?_
      simp only [g38_20, bR, Nat.reduceEqDiff, reduceIte, Int.reduceBNe, Int.reduceBEq]
      refine .done (hK _ ?_); clear hK K; simp only [thenQ, blockQ]
      refine AW.reg cd38_21 fun K hK => ?_
      simp only [g38_21, bR, Nat.reduceEqDiff, reduceIte, Int.reduceBNe, Int.reduceBEq]
      refine .done (hK _ ?_); clear hK K; simp only [thenQ, blockQ]
      refine ⟨i + 1, by omega, by omega, ?_⟩
      rw [hs, wrap_id _ (by omega) (by omega), wrap_id _ (by omega) (by omega)]
      refine Sub.of_lists ?_ ?_ ?_ ?_ <;> simp [subT, subO, onlyT, onlyO, isIn, look_cons, lookO_cons, lookO_nil, AV.only, AV.onlys, AO.only, onlys_map, onlys_append, e_only, e_int, e_bool]
  · rw [if_pos rfl] at hs
    have hz : band x y ≠ 0 := by simpa using hxy
    have hL := members_pos (band x y) hbi hz
    have hg := getD0_in hL
    try simp only [typR, useR, okR, e_fin, bR, Nat.reduceEqDiff, reduceIte, Int.reduceBNe, Int.reduceBEq]
    refine .done (hK _ ?_); clear hK K; simp only [thenQ, blockQ]
    refine AW.ite ?_
    simp only [condQ, bR, Nat.reduceEqDiff, reduceIte, Int.reduceBNe, Int.reduceBEq]
    refine ⟨fun h => ?_, fun h => ?_⟩
    · refine AW.reg cd38_15 fun K hK => ?_
      simp only [g38_15, bR, Nat.reduceEqDiff, reduceIte, Int.reduceBNe, Int.reduceBEq]
      try simp only [typR, useR, okR, e_fin, bR, Nat.reduceEqDiff, reduceIte, Int.reduceBNe, Int.reduceBEq]
      refine .lead _ (F81 (band x y) hbi.1 hbi.2) ?_
      simp only [isE0 hL, typR, useR, okR, bR, Nat.reduceEqDiff, reduceIte, Int.reduceBNe, Int.reduceBEq]
      have ho : IntKind.i64.wrap (1 * 2 ^ min ((members (band x y) 5).getD 0 0).toNat IntKind.i64.bits) = one (members (band x y) 5) := rfl
      rw [if_pos hg.1, ho]
      simp only [typR, useR, okR, inB_nat 1 r hi6 rfl, atL_g r hi6, get_g r hi6, stR3_g r hi6, bR, Nat.reduceEqDiff, reduceIte, Int.reduceBNe, Int.reduceBEq]
      refine .done (hK _ ?_); clear hK K; simp only [thenQ, blockQ]
      refine AW.reg cd38_21 fun K hK => ?_
      simp only [g38_21, bR, Nat.reduceEqDiff, reduceIte, Int.reduceBNe, Int.reduceBEq]
      refine .done (hK _ ?_); clear hK K; simp only [thenQ, blockQ]
      refine ⟨i + 1, by omega, by omega, ?_⟩
      rw [hs, wrap_id _ (by omega) (by omega)]
      refine Sub.of_lists ?_ ?_ ?_ ?_ <;> simp [subT, subO, onlyT, onlyO, isIn, look_cons, lookO_cons, lookO_nil, AV.only, AV.onlys, AO.only, onlys_map, onlys_append, e_only, e_int, e_bool]
    · cases h

end Go.Proofs.Ytkjkbpgdpnapfaa

/-
  WHAT Meet RETURNS IS DUE (in plain data), and the law MarkCosts by contract.
-/
namespace Go.Proofs.Ytkjkbpgdpnapfaa
open Go Go.Abs
open Go.Abs.Enc (enc)

/-- The sign laid at place i. -/
def metV (w : Arr 5 Int) (a b : Arr 6 Int) (i : Nat) : Int :=
  if band (sg w a i) (sg w b i) != 0 then one (members (band (sg w a i) (sg w b i)) 5) else if cnt (apartAt w a b) i % 2 = 0 then one (members (sg w a i) 5) else one (members (sg w b i) 5)

theorem meetUp_eq (w : Arr 5 Int) (a b : Arr 6 Int) : ∀ i, i ≤ 6 → (meetUp w a b i).2 = cnt (apartAt w a b) i ∧ ∀ j, j < i → (meetUp w a b i).1.g j = metV w a b j
  | 0, _ => ⟨rfl, fun j h => absurd h (by omega)⟩
  | i + 1, hi => by
    obtain ⟨h1, h2⟩ := meetUp_eq w a b i (by omega)
    have hap : apartAt w a b i = (band (sg w a i) (sg w b i) == 0) := rfl
    have hv : metV w a b i = if band (sg w a i) (sg w b i) != 0 then one (members (band (sg w a i) (sg w b i)) 5) else if cnt (apartAt w a b) i % 2 = 0 then one (members (sg w a i) 5) else one (members (sg w b i) 5) := rfl
    simp only [meetUp, meetStep, cnt, hap]
    cases hz : band (sg w a i) (sg w b i) == 0 with
    | false =>
      have hz' : (band (sg w a i) (sg w b i) != 0) = true := by simp only [bne, hz]; rfl
      rw [hz'] at hv
      simp only [hz', if_true, Bool.false_eq_true, if_false] at hv ⊢
      refine ⟨h1, fun j hj => ?_⟩
      rw [g_upd _ _ _ _ (by omega)]
      split
      · rename_i e; subst e; exact hv.symm
      · exact h2 j (by omega)
    | true =>
      have hz' : (band (sg w a i) (sg w b i) != 0) = false := by simp only [bne, hz]; rfl
      rw [hz'] at hv
      simp only [hz', Bool.false_eq_true, if_false, if_true] at hv ⊢
      rw [h1]
      split
      · rename_i ht
        rw [if_pos ht] at hv
        refine ⟨rfl, fun j hj => ?_⟩
        simp only
        rw [g_upd _ _ _ _ (by omega)]
        split
        · rename_i e; subst e; exact hv.symm
        · exact h2 j (by omega)
      · rename_i ht
        rw [if_neg ht] at hv
        refine ⟨rfl, fun j hj => ?_⟩
        simp only
        rw [g_upd _ _ _ _ (by omega)]
        split
        · rename_i e; subst e; exact hv.symm
        · exact h2 j (by omega)

def okV (v : Int) : Bool := decide (1 ≤ v) && (decide (v ≤ 31) && (band v (IntKind.i64.wrap (v - 1)) == 0))
theorem one_facts : ∀ x y : Fin 32, (x.1 : Int) ≠ 0 → (y.1 : Int) ≠ 0 →
    (band (x.1 : Int) (y.1 : Int) ≠ 0 → band (x.1 : Int) (one (members (band (x.1 : Int) (y.1 : Int)) 5)) ≠ 0 ∧ band (y.1 : Int) (one (members (band (x.1 : Int) (y.1 : Int)) 5)) ≠ 0 ∧ okV (one (members (band (x.1 : Int) (y.1 : Int)) 5)) = true) ∧
    (band (x.1 : Int) (one (members (x.1 : Int) 5)) ≠ 0 ∧ okV (one (members (x.1 : Int) 5)) = true) := by decide +kernel
theorem one_at {x y : Int} (hx : 0 ≤ x ∧ x ≤ 31) (hy : 0 ≤ y ∧ y ≤ 31) (hx0 : x ≠ 0) (hy0 : y ≠ 0) :
    (band x y ≠ 0 → band x (one (members (band x y) 5)) ≠ 0 ∧ band y (one (members (band x y) 5)) ≠ 0 ∧ okV (one (members (band x y) 5)) = true) ∧ (band x (one (members x 5)) ≠ 0 ∧ okV (one (members x 5)) = true) := by
  have := one_facts ⟨x.toNat, by omega⟩ ⟨y.toNat, by omega⟩
  simp only [show ((x.toNat : Nat) : Int) = x by omega, show ((y.toNat : Nat) : Int) = y by omega] at this
  exact this hx0 hy0

theorem sg_in {w : Arr 5 Int} {a : Arr 6 Int} (hw : okWear w = true) (ha : okMark a = true) {i : Nat} (hi : i < 6) : (0 ≤ sg w a i ∧ sg w a i ≤ 31) ∧ sg w a i ≠ 0 := by
  have a1 := okMark_at ha hi
  have a2 := okWear_at hw (show (a.g i).toNat < 5 by omega)
  exact ⟨a2.1, bit_ne a2.1 (by omega) a2.2⟩

theorem metV_facts {w : Arr 5 Int} {a b : Arr 6 Int} (hw : okWear w = true) (ha : okMark a = true) (hb : okMark b = true) {i : Nat} (hi : i < 6) :
    okV (metV w a b i) = true ∧ (band (sg w a i) (metV w a b i) = 0 → apartAt w a b i = true ∧ ¬ cnt (apartAt w a b) i % 2 = 0) ∧ (band (sg w b i) (metV w a b i) = 0 → apartAt w a b i = true ∧ cnt (apartAt w a b) i % 2 = 0) := by
  have hap : apartAt w a b i = (band (sg w a i) (sg w b i) == 0) := rfl
  obtain ⟨x1, x2⟩ := sg_in hw ha hi
  obtain ⟨y1, y2⟩ := sg_in hw hb hi
  obtain ⟨k1, k2⟩ := one_at x1 y1 x2 y2
  obtain ⟨_, k3⟩ := one_at y1 x1 y2 x2
  rw [hap]
  simp only [metV]
  cases hz : band (sg w a i) (sg w b i) == 0 with
  | false =>
    have hz' : (band (sg w a i) (sg w b i) != 0) = true := by simp only [bne, hz]; rfl
    have hz2 : band (sg w a i) (sg w b i) ≠ 0 := by simpa using hz
    obtain ⟨q1, q2, q3⟩ := k1 hz2
    rw [if_pos hz']
    exact ⟨q3, fun h => absurd h q1, fun h => absurd h q2⟩
  | true =>
    have hz' : ¬ (band (sg w a i) (sg w b i) != 0) = true := by simp only [bne, hz]; decide
    rw [if_neg hz']
    by_cases ht : cnt (apartAt w a b) i % 2 = 0
    · rw [if_pos ht]
      exact ⟨k2.2, fun h => absurd h k2.1, fun _ => ⟨rfl, ht⟩⟩
    · rw [if_neg ht]
      exact ⟨k3.2, fun _ => ⟨rfl, ht⟩, fun h => absurd h k3.1⟩

theorem cnt_odd (p q : Nat → Bool) : ∀ n, (∀ i, i < n → q i = true → p i = true ∧ ¬ cnt p i % 2 = 0) → cnt q n ≤ cnt p n / 2
  | 0, _ => by simp [cnt]
  | n + 1, h => by
    have ih := cnt_odd p q n fun i hi => h i (by omega)
    have hn := h n (by omega)
    simp only [cnt]
    cases hq : q n with
    | true => obtain ⟨h1, h2⟩ := hn hq; simp only [h1, if_true]; omega
    | false => simp only [Bool.false_eq_true, if_false]; split <;> omega
theorem cnt_even (p q : Nat → Bool) : ∀ n, (∀ i, i < n → q i = true → p i = true ∧ cnt p i % 2 = 0) → cnt q n ≤ (cnt p n + 1) / 2
  | 0, _ => by simp [cnt]
  | n + 1, h => by
    have ih := cnt_even p q n fun i hi => h i (by omega)
    have hn := h n (by omega)
    simp only [cnt]
    cases hq : q n with
    | true => obtain ⟨h1, h2⟩ := hn hq; simp only [h1, if_true]; omega
    | false => simp only [Bool.false_eq_true, if_false]; split <;> omega

theorem meet_err (w : Arr 5 Int) (n : Int) (a b : Arr 6 Int) : (meetR w n a b).2 = meetE w n a b := by
  simp only [meetR, meetE, distR]
  by_cases hw : okWear w = true
  · by_cases ha : okMark a = true
    · by_cases hb : okMark b = true
      · by_cases hn : inR 0 2 n = true
        · simp only [hw, ha, hb, hn, if_true]
          split <;> simp
        · simp [hw, ha, hb, hn]
      · simp [hw, ha, hb]
    · simp [hw, ha]
  · simp [hw]
theorem meet_bad {w : Arr 5 Int} {n : Int} {a b : Arr 6 Int} (h : (meetR w n a b).2 ≠ 0) : (meetR w n a b).1 = zero6 := by
  revert h
  simp only [meetR]
  cases okWear w <;> cases okMark a <;> cases okMark b <;> cases inR 0 2 n <;> simp
  split <;> simp
theorem meet_good {w : Arr 5 Int} {n : Int} {a b : Arr 6 Int} (h : (meetR w n a b).2 = 0) : okMark a = true ∧ okMark b = true ∧ meetsR w n ⟨a, b⟩ (meetR w n a b).1 = true := by
  revert h
  simp only [meetR]
  cases hw : okWear w <;> cases ha : okMark a <;> cases hb : okMark b <;> cases hn : inR 0 2 n <;> simp
  split
  · simp
  rename_i hd
  intro _
  have hn2 : 0 ≤ n ∧ n ≤ 2 := by simpa [inR] using hn
  rw [wrap_id _ (by omega) (by omega)] at hd
  have hg : ∀ j, j < 6 → (meetUp w a b 6).1.g j = metV w a b j := (meetUp_eq w a b 6 (Nat.le_refl _)).2
  have hf := fun (j : Nat) (hj : j < 6) => metV_facts hw ha hb hj
  have hv : ∀ j, j < 6 → okV ((meetUp w a b 6).1.g j) = true := fun j hj => by rw [hg j hj]; exact (hf j hj).1
  have hca : ∀ j, j < 6 → costAt w a (meetUp w a b 6).1 j = true → apartAt w a b j = true ∧ ¬ cnt (apartAt w a b) j % 2 = 0 := fun j hj h => by
    refine (hf j hj).2.1 ?_
    simp only [costAt, beq_iff_eq, hg j hj] at h
    exact h
  have hcb : ∀ j, j < 6 → costAt w b (meetUp w a b 6).1 j = true → apartAt w a b j = true ∧ cnt (apartAt w a b) j % 2 = 0 := fun j hj h => by
    refine (hf j hj).2.2 ?_
    simp only [costAt, beq_iff_eq, hg j hj] at h
    exact h
  have e1 := cnt_odd _ _ 6 hca
  have e2 := cnt_even _ _ 6 hcb
  have hr : okReading (meetUp w a b 6).1 = true := by
    simp only [okReading, List.all_eq_true, List.mem_range]
    intro j hj
    have := hv j hj
    simp only [okV, Bool.and_eq_true, decide_eq_true_eq] at this
    simp [inR, this.1, this.2.1]
  have hs : sharp (meetUp w a b 6).1 = true := by
    simp only [sharp, List.all_eq_true, List.mem_range]
    intro j hj
    have := hv j hj
    simp only [okV, Bool.and_eq_true] at this
    exact this.2.2
  simp only [meetsR, hr, hs, Bool.true_and, Bool.and_eq_true, decide_eq_true_eq, costOf]
  have e3 : (cnt (costAt w a (meetUp w a b 6).1) 6 : Int) ≤ n ∧ (cnt (costAt w b (meetUp w a b 6).1) 6 : Int) ≤ n := by omega
  exact ⟨decide_eq_true e3.1, decide_eq_true e3.2⟩

end Go.Proofs.Ytkjkbpgdpnapfaa

/-
  THE LAW MarkCosts BY CONTRACT.
-/
namespace Go.Proofs.Ytkjkbpgdpnapfaa
open Go Go.Abs
open Go.Abs.Enc (enc)

theorem eqE_b (a b : Bool) : eqE .b (.bool a) (.bool b) = some (a == b) := by simp [eqE]

theorem F9 (m : Marks) (p : Pair) (r : Arr 6 Int) : Ctr Try.prog 9 [enc m, enc p, enc r] (enc true) := by
  refine Ctr.mk' Try.func9 ca9 cc9 cr9 (Nat.le_of_ble_eq_true rfl) (fun hwf W0 D0 E1 => ?_)
  simp only [c9, r9, idx, Nat.zero_add, Nat.reduceAdd]
  refine AW.seq (AW.reg cd9_0 fun K hK => ?_)
  simp only [g9_0, bR, Nat.reduceEqDiff, reduceIte, Int.reduceBNe, Int.reduceBEq]
  simp only [e_isVal, bR, Nat.reduceEqDiff, reduceIte, Int.reduceBNe, Int.reduceBEq]
  refine .done (hK _ ?_); clear hK K; simp only [thenQ, blockQ]
  refine AW.seq (AW.reg cd9_1 fun K hK => ?_)
  simp only [g9_1, bR, Nat.reduceEqDiff, reduceIte, Int.reduceBNe, Int.reduceBEq]
  simp only [typR, pairR, useR, okR, e_fin, bR, Nat.reduceEqDiff, reduceIte, Int.reduceBNe, Int.reduceBEq]
  refine .lead _ (F37 m.wear p.a r) ?_
  simp only [typR, bR, Nat.reduceEqDiff, reduceIte, Int.reduceBNe, Int.reduceBEq]
  refine .done (hK _ ?_); clear hK K; simp only [thenQ, blockQ]
  refine AW.seq (AW.reg cd9_2 fun K hK => ?_)
  simp only [g9_2, bR, Nat.reduceEqDiff, reduceIte, Int.reduceBNe, Int.reduceBEq]
  simp only [typR, pairR, useR, okR, e_fin, bR, Nat.reduceEqDiff, reduceIte, Int.reduceBNe, Int.reduceBEq]
  refine .lead _ (F49 m.wear p.a r) ?_
  simp only [typR, bR, Nat.reduceEqDiff, reduceIte, Int.reduceBNe, Int.reduceBEq]
  refine .done (hK _ ?_); clear hK K; simp only [thenQ, blockQ]
  refine AW.seq (AW.reg cd9_3 fun K hK => ?_)
  simp only [g9_3, bR, Nat.reduceEqDiff, reduceIte, Int.reduceBNe, Int.reduceBEq]
  simp only [typR, pairR, useR, okR, e_fin, bR, Nat.reduceEqDiff, reduceIte, Int.reduceBNe, Int.reduceBEq]
  refine .lead _ (F36 m.wear p.a p.b) ?_
  simp only [typR, bR, Nat.reduceEqDiff, reduceIte, Int.reduceBNe, Int.reduceBEq]
  refine .done (hK _ ?_); clear hK K; simp only [thenQ, blockQ]
  refine AW.seq (AW.reg cd9_4 fun K hK => ?_)
  simp only [g9_4, bR, Nat.reduceEqDiff, reduceIte, Int.reduceBNe, Int.reduceBEq]
  simp only [typR, pairR, useR, okR, e_fin, bR, Nat.reduceEqDiff, reduceIte, Int.reduceBNe, Int.reduceBEq]
  refine .lead _ (F50 m.wear p.a p.b) ?_
  simp only [typR, bR, Nat.reduceEqDiff, reduceIte, Int.reduceBNe, Int.reduceBEq]
  refine .done (hK _ ?_); clear hK K; simp only [thenQ, blockQ]
  refine AW.seq (AW.reg cd9_5 fun K hK => ?_)
  simp only [g9_5, bR, Nat.reduceEqDiff, reduceIte, Int.reduceBNe, Int.reduceBEq]
  simp only [typR, pairR, useR, okR, e_fin, bR, Nat.reduceEqDiff, reduceIte, Int.reduceBNe, Int.reduceBEq]
  refine .lead _ (F51 m p.a r) ?_
  simp only [typR, bR, Nat.reduceEqDiff, reduceIte, Int.reduceBNe, Int.reduceBEq]
  refine .done (hK _ ?_); clear hK K; simp only [thenQ, blockQ]
  refine AW.seq (AW.reg cd9_6 fun K hK => ?_)
  simp only [g9_6, bR, Nat.reduceEqDiff, reduceIte, Int.reduceBNe, Int.reduceBEq]
  simp only [typR, pairR, useR, okR, e_fin, bR, Nat.reduceEqDiff, reduceIte, Int.reduceBNe, Int.reduceBEq]
  refine .lead _ (F52 m p.a r) ?_
  simp only [typR, bR, Nat.reduceEqDiff, reduceIte, Int.reduceBNe, Int.reduceBEq]
  refine .done (hK _ ?_); clear hK K; simp only [thenQ, blockQ]
  refine AW.seq ?_
  refine AW.seq (AW.reg cd9_7 fun K hK => ?_)
  simp only [g9_7, bR, Nat.reduceEqDiff, reduceIte, Int.reduceBNe, Int.reduceBEq]
  simp only [typR, useR, okR, e_fin, eqE_b, bne_self_eq_false, BEq.rfl, bR, Nat.reduceEqDiff, reduceIte, Int.reduceBNe, Int.reduceBEq]
  refine .done (hK _ ?_); clear hK K; simp only [thenQ, blockQ]
  refine AW.ite ?_
  simp only [condQ, bR, Nat.reduceEqDiff, reduceIte, Int.reduceBNe, Int.reduceBEq]
  refine ⟨fun h => ?_, fun h => ?_⟩
  · cases h
  refine AW.skip ?_; simp only [thenQ, blockQ, reduceIte, Nat.reduceEqDiff]
  refine AW.seq ?_
  refine AW.seq (AW.reg cd9_9 fun K hK => ?_)
  simp only [g9_9, bR, Nat.reduceEqDiff, reduceIte, Int.reduceBNe, Int.reduceBEq]
  refine .done (hK _ ?_); clear hK K; simp only [thenQ, blockQ]
  refine AW.block (AW.loop (fun k : Nat => mkA [(3, .ptr 3 []), (4, .ptr 4 []), (5, .ptr 5 []), (19, .int .i64 ((k : Int) - 1))] [(3, .box (enc m)), (4, .box (enc p)), (5, .box (enc r))]) (fun k => k ≤ 5) (fun k => 5 - k) 0 (by omega) ?_ (fun k hk => ?_))
  · refine Sub.of_lists ?_ ?_ ?_ ?_ <;> simp [subT, subO, onlyT, onlyO, isIn, look_cons, lookO_cons, lookO_nil, AV.only, AV.onlys, AO.only, onlys_map, onlys_append, e_only, e_int, e_bool]
  refine AW.seq (AW.seq ?_)
  refine AW.reg cd9_10 fun K hK => ?_
  simp only [g9_10, bR, Nat.reduceEqDiff, reduceIte, Int.reduceBNe, Int.reduceBEq]
  try simp only [typR, useR, okR, e_fin, bR, Nat.reduceEqDiff, reduceIte, Int.reduceBNe, Int.reduceBEq]
  refine .done (hK _ ?_); clear hK K; simp only [thenQ, blockQ]
  refine AW.ite ?_
  simp only [condQ, bR, Nat.reduceEqDiff, reduceIte, Int.reduceBNe, Int.reduceBEq]
  refine ⟨fun h => ?_, fun h => ?_⟩
  · have hk5 : k < 5 := by simp at h; omega
    obtain ⟨n, hn⟩ : ∃ n : Int, n = (k : Int) - 1 := ⟨_, rfl⟩
    rw [← hn]
    refine AW.skip ?_; simp only [thenQ, blockQ, reduceIte, Nat.reduceEqDiff]
    refine AW.seq (AW.block ?_)
    refine AW.seq (AW.reg cd9_11 fun K hK => ?_)
    simp only [g9_11, bR, Nat.reduceEqDiff, reduceIte, Int.reduceBNe, Int.reduceBEq]
    simp only [typR, pairR, useR, okR, e_fin, bR, Nat.reduceEqDiff, reduceIte, Int.reduceBNe, Int.reduceBEq]
    refine .lead _ (F38 m.wear n p.a p.b) ?_
    simp only [typR, e_a6, stR3_6, bR, Nat.reduceEqDiff, reduceIte, Int.reduceBNe, Int.reduceBEq]
    refine .done (hK _ ?_); clear hK K; simp only [thenQ, blockQ]
    refine AW.seq (AW.reg cd9_12 fun K hK => ?_)
    simp only [g9_12, bR, Nat.reduceEqDiff, reduceIte, Int.reduceBNe, Int.reduceBEq]
    simp only [typR, pairR, useR, okR, e_fin, bR, Nat.reduceEqDiff, reduceIte, Int.reduceBNe, Int.reduceBEq]
    refine .flat _ (F53 m.wear n p) rfl ?_
    try simp only [typR, useR, okR, e_fin, bR, Nat.reduceEqDiff, reduceIte, Int.reduceBNe, Int.reduceBEq]
    refine .done (hK _ ?_); clear hK K; simp only [thenQ, blockQ]
    rw [← meet_err]
    generalize he : (meetR m.wear n p.a p.b).2 = e
    refine AW.seq ?_
    refine AW.reg cd9_13 fun K hK => ?_
    simp only [g9_13, bR, Nat.reduceEqDiff, reduceIte, Int.reduceBNe, Int.reduceBEq]
    simp only [bne_self_eq_false, bR, Nat.reduceEqDiff, reduceIte, Int.reduceBNe, Int.reduceBEq]
    by_cases h0 : e = 0
    · subst h0
      obtain ⟨ga, gb, gm⟩ := meet_good he
      simp only [bne_self_eq_false, BEq.rfl, typR, pairR, useR, okR, e_fin, bR, Nat.reduceEqDiff, reduceIte, Int.reduceBNe, Int.reduceBEq]
      refine .flat _ (F54 m.wear n p _ ga gb) rfl ?_
      rw [gm]
      try simp only [typR, useR, okR, e_fin, bR, Nat.reduceEqDiff, reduceIte, Int.reduceBNe, Int.reduceBEq]
      refine .done (hK _ ?_); clear hK K; simp only [thenQ, blockQ]
      refine AW.ite ?_
      simp only [condQ, bR, Nat.reduceEqDiff, reduceIte, Int.reduceBNe, Int.reduceBEq]
      refine ⟨fun h => ?_, fun h => ?_⟩
      · cases h
      refine AW.skip ?_; simp only [thenQ, blockQ, reduceIte, Nat.reduceEqDiff]
      refine AW.reg cd9_15 fun K hK => ?_
      simp only [g9_15, bR, Nat.reduceEqDiff, reduceIte, Int.reduceBNe, Int.reduceBEq]
      refine .done (hK _ ?_); clear hK K; simp only [thenQ, blockQ]
      refine ⟨k + 1, by omega, by omega, ?_⟩
      rw [wrap_id _ (by omega) (by omega), hn, show ((k : Int) - 1 + 1) = ((k + 1 : Nat) : Int) - 1 by omega]
      refine Sub.of_lists ?_ ?_ ?_ ?_ <;> simp [subT, subO, onlyT, onlyO, isIn, look_cons, lookO_cons, lookO_nil, AV.only, AV.onlys, AO.only, onlys_map, onlys_append, e_only, e_int, e_bool]
    · have hb : (e != 0) = true := by simpa using h0
      have hb2 : (e == 0) = false := by simpa using h0
      have hz := meet_bad (by rw [he]; exact h0)
      simp only [hb, hb2, hz, setParts, typR, e_zero6, eqE_arr, decide_true, bR, Nat.reduceEqDiff, reduceIte, Int.reduceBNe, Int.reduceBEq]
      refine .done (hK _ ?_); clear hK K; simp only [thenQ, blockQ]
      refine AW.ite ?_
      simp only [condQ, bR, Nat.reduceEqDiff, reduceIte, Int.reduceBNe, Int.reduceBEq]
      refine ⟨fun h => ?_, fun h => ?_⟩
      · cases h
      refine AW.skip ?_; simp only [thenQ, blockQ, reduceIte, Nat.reduceEqDiff]
      refine AW.reg cd9_15 fun K hK => ?_
      simp only [g9_15, bR, Nat.reduceEqDiff, reduceIte, Int.reduceBNe, Int.reduceBEq]
      refine .done (hK _ ?_); clear hK K; simp only [thenQ, blockQ]
      refine ⟨k + 1, by omega, by omega, ?_⟩
      rw [wrap_id _ (by omega) (by omega), hn, show ((k : Int) - 1 + 1) = ((k + 1 : Nat) : Int) - 1 by omega]
      refine Sub.of_lists ?_ ?_ ?_ ?_ <;> simp [subT, subO, onlyT, onlyO, isIn, look_cons, lookO_cons, lookO_nil, AV.only, AV.onlys, AO.only, onlys_map, onlys_append, e_only, e_int, e_bool]
  · refine AW.exit ?_; simp only [thenQ, blockQ, reduceIte, Nat.reduceEqDiff]
    refine AW.seq (AW.reg cd9_16 fun K hK => ?_)
    simp only [g9_16, bR, Nat.reduceEqDiff, reduceIte, Int.reduceBNe, Int.reduceBEq]
    refine .flat _ F21 rfl ?_
    try simp only [typR, useR, okR, e_fin, bR, Nat.reduceEqDiff, reduceIte, Int.reduceBNe, Int.reduceBEq]
    refine .done (hK _ ?_); clear hK K; simp only [thenQ, blockQ]
    refine AW.ret ?_
    simp only [blockQ, thenQ, bR, Nat.reduceEqDiff, reduceIte, Int.reduceBNe, Int.reduceBEq]

end Go.Proofs.Ytkjkbpgdpnapfaa

/-
  PROVED HERE: the law MarkCosts returns true for every input, and each argument reads afterwards as it read before. Conditions: none beyond the statement's own.
-/
namespace Go.Proofs.Ytkjkbpgdpnapfaa
open Go Go.Abs Go.ChangeShapes Go.WideShapes Go.ChangeAt Go.RowKit
open Go.Abs.Enc (enc)

set_option maxRecDepth 100000 in
theorem markCosts_lifted (os : Os) (started : os.Started) (H : Type) (enc0 : TypeId × Value → H) :
    ReturnsInHanded {} Try.checked os 9 .any (Rows.markCostsSpec.pre6 enc0 Try.prog Try.f9 Rows.markCostsRow.domain false) (Rows.markCostsSpec.post enc0 Try.prog Try.f9 false true false false) := by
  refine returnsInHanded_of_change (C := Try.checked) Try.own started (by kernel_rfl) Try.func9
    (ChangeSpec.witness6 (enc := enc0) (C := Try.checked) false ⟨#[], #[.agg #[.int .i64 0, .int .i64 0, .int .i64 0, .int .i64 0, .int .i64 0, .int .i64 0, .slice none 0 0], .agg #[.int .i64 0, .int .i64 0, .int .i64 0, .int .i64 0, .int .i64 0, .int .i64 0, .int .i64 0, .int .i64 0, .int .i64 0, .int .i64 0, .int .i64 0, .int .i64 0], .agg #[.int .i64 0, .int .i64 0, .int .i64 0, .int .i64 0, .int .i64 0, .int .i64 0]], []⟩ 8 (by kernel_rfl) (by kernel_rfl) (by kernel_rfl) (by kernel_rfl)) ?_
  intro W base args ds gs before hval0 hW hcnd _
  have hval : ∀ (j : Nat) t v, Try.f9.params[j]? = some t → args[j]? = some v → Value.okWide Try.prog W .any base t v := hval0
  have hW' := hW
  obtain ⟨p, q, hA0, hV, hbef, hfz, hnd⟩ := hW
  have hA : DataW.TrodAll enc0 Try.prog W 0 (fun _ => true) true Try.f9.params.toList args.toList ds p := hA0
  rw [Try.params9] at hA hval
  obtain ⟨v0, v1, v2, d0, d1, d2, p0, p1, p2, rfl, rfl, rfl, h0, h1, h2⟩ := trodAll_three hA
  obtain ⟨rfl, rfl⟩ := trodVars_none hV
  obtain ⟨a0, c0, k0⟩ := open_arg oMarks rfl (by kernel_rfl) (hval 0 26 v0 rfl rfl) h0
  obtain ⟨a1, c1, k1⟩ := open_arg oPair rfl (by kernel_rfl) (hval 1 73 v1 rfl rfl) h1
  obtain ⟨a2, c2, k2⟩ := open_arg oReading rfl (by kernel_rfl) (hval 2 28 v2 rfl rfl) h2
  exact law_post (tb := 4) Try.laidOut (by rw [Try.params9]) rfl rfl (by rw [hbef]; simp) rfl rfl (by kernel_rfl) (by kernel_rfl) hW' h0 h1 h2 (by
    intro t ht
    simp only [List.mem_cons, List.mem_nil_iff, or_false] at ht
    rcases ht with rfl | rfl | rfl <;> exact ⟨by kernel_rfl, of_decide_eq_true (by kernel_rfl)⟩) (F9 a0 a1 a2) (rvs3 ⟨c0, k0⟩ ⟨c1, k1⟩ ⟨c2, k2⟩)

theorem markCosts_holds : Rows.MarkCostsSaid :=
  OpenClaim.holds_of_wide 9 Try.f9 rfl rfl rfl rfl rfl rfl rfl ⟨rfl, rfl, rfl, rfl, rfl⟩ rfl rfl rfl rfl rfl (by kernel_rfl) Try.func9 (by kernel_rfl)
    (of_decide_eq_true (by kernel_rfl)) (by unfold Func.isWrapper; first | (rw [if_pos (by decide +kernel)]; kernel_rfl) | (rw [if_neg (by decide +kernel)]; exact ⟨rfl, rfl⟩))
    (fun os started H enc0 _ => markCosts_lifted os started H enc0)

#print axioms markCosts_holds
end Go.Proofs.Ytkjkbpgdpnapfaa

/-
  The tops of three laws, side by side.
-/
namespace Go.Proofs.Ytkjkbpgdpnapfaa
end Go.Proofs.Ytkjkbpgdpnapfaa

