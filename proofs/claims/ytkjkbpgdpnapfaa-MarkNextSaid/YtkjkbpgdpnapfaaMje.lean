/-
  THE PROGRAM'S DATA AS ABSTRACT VALUES: a given mark, a book of marks. And small functions by contract: index, worn, meets, within, has, isSet.
-/
import Derived.Test.YtkjkbpgdpnapfaaMjd
set_option linter.unusedSimpArgs false
set_option linter.unusedVariables false
namespace Go.Proofs.Ytkjkbpgdpnapfaa
open Go Go.Abs
open Go.Abs.Enc (enc)
structure Given where
  owner : Int
  mark : Arr 6 Int
instance : Enc Given where
  enc g := .agg [.int .i64 g.owner, enc g.mark]
  sz := 7
  sh := .many [.one, .many (List.replicate 6 .one)]
  isA := true
  done g := by simp only [AV.done, AV.dones, Enc.done, Bool.and_self]
  size g := by simp only [AV.size, AV.sizes, e_size, e_szArr, e_szInt]
  shp g := by simp only [AV.sh, AV.shs, e_sh, e_shArr, e_shInt]
  agg _ := rfl
structure Marks where
  wear : Arr 5 Int
  fls : Int
  given : List Given
instance : Enc Marks where
  enc m := .agg [enc m.wear, .int .i64 m.fls, enc m.given]
  sz := 7
  sh := .many [.many (List.replicate 5 .one), .one, .one]
  isA := true
  done m := by simp only [AV.done, AV.dones, Enc.done, Bool.and_self]
  size m := by simp only [AV.size, AV.sizes, e_size, e_szArr, e_szInt, e_szList]
  shp m := by simp only [AV.sh, AV.shs, e_sh, e_shArr, e_shInt, e_shList]
  agg _ := rfl
theorem offR_eq {fs : List AV} {f off : Nat} {v : AV} (h1 : f < fs.length) (h : AV.sizes (fs.take f) = off) : offR fs f off v = some v := by simp [offR, h, h1]
theorem typR :
    (∀ m : Marks, (enc m).flds = some [enc m.wear, .int .i64 m.fls, enc m.given]) ∧ (∀ g : Given, (enc g).flds = some [.int .i64 g.owner, enc g.mark]) ∧
    (∀ (w : Arr 5 Int) (n : Int) (g : List Given) v, offR [enc w, .int .i64 n, enc g] 0 0 v = some v) ∧ (∀ (w : Arr 5 Int) (n : Int) (g : List Given) v, offR [enc w, .int .i64 n, enc g] 1 5 v = some v) ∧ (∀ (w : Arr 5 Int) (n : Int) (g : List Given) v, offR [enc w, .int .i64 n, enc g] 2 6 v = some v) ∧
    (∀ (n : Int) (m : Arr 6 Int) v, offR [.int .i64 n, enc m] 0 0 v = some v) ∧ (∀ (n : Int) (m : Arr 6 Int) v, offR [.int .i64 n, enc m] 1 1 v = some v) ∧
    (∀ (g : List Given), okLd none (enc g) = true) ∧ (∀ (g : List Int), okLd none (enc g) = true) ∧ (∀ (g : Arr 5 Int), okLd (some 5) (enc g) = true) ∧ (∀ (g : Arr 6 Int), okLd (some 6) (enc g) = true) ∧ (∀ (g : Given), okLd (some 7) (enc g) = true) ∧ (∀ (g : Marks), okLd (some 7) (enc g) = true) ∧
    (∀ (fs : List AV) x, (x :: fs)[0]? = some x) ∧ (∀ (fs : List AV) x n, (x :: fs)[n + 1]? = fs[n]?) ∧ (∀ (fs : List AV) x, (x :: fs)[1]? = fs[0]?) ∧ (∀ (fs : List AV) x, (x :: fs)[2]? = fs[1]?) :=
  ⟨fun _ => rfl, fun _ => rfl, fun _ _ _ _ => offR_eq (Nat.le_of_ble_eq_true rfl) rfl, fun w n g v => offR_eq (Nat.le_of_ble_eq_true rfl) (by simp [AV.sizes, e_size, e_szArr, e_szInt]), fun w n g v => offR_eq (Nat.le_of_ble_eq_true rfl) (by simp [AV.sizes, AV.size, e_size, e_szArr, e_szInt]), fun _ _ _ => offR_eq (Nat.le_of_ble_eq_true rfl) rfl, fun _ _ _ => offR_eq (Nat.le_of_ble_eq_true rfl) (by simp [AV.sizes, AV.size]),
    fun _ => by simp [e_okN, e_isAList], fun _ => by simp [e_okN, e_isAList], fun _ => by simp [e_okS, e_isAArr, e_szArr, e_szInt], fun _ => by simp [e_okS, e_isAArr, e_szArr, e_szInt], fun _ => by rw [e_okS]; rfl, fun _ => by rw [e_okS]; rfl,
    fun _ _ => rfl, fun _ _ _ => rfl, fun _ _ => rfl, fun _ _ => rfl⟩
theorem F89 (n lo hi : Int) : Ctr Try.prog 89 [enc n, enc lo, enc hi] (enc (inR lo hi n)) := by
  refine Ctr.mk' Try.func89 ca89 cc89 cr89 (Nat.le_of_ble_eq_true rfl) (fun hwf W0 D0 E1 => ?_)
  simp only [c89, r89, idx, Nat.zero_add, Nat.reduceAdd]
  refine AW.seq (AW.reg cd89_0 fun K hK => ?_)
  simp only [g89_0, bR, Nat.reduceEqDiff, reduceIte, Int.reduceBNe, Int.reduceBEq]
  refine .done (hK _ ?_); clear hK K; simp only [thenQ, blockQ]
  refine AW.seq (AW.reg cd89_1 fun K hK => ?_)
  simp only [g89_1, bR, Nat.reduceEqDiff, reduceIte, Int.reduceBNe, Int.reduceBEq]
  refine .guard (fun h => ?_) (fun h => ?_)
  · simp only [bR, Nat.reduceEqDiff, reduceIte, Int.reduceBNe, Int.reduceBEq, h]
    refine .done (hK _ ?_); clear hK K; simp only [thenQ, blockQ]
    refine AW.ret ?_
    simp only [blockQ, thenQ, bR, Nat.reduceEqDiff, reduceIte, Int.reduceBNe, Int.reduceBEq]
    simp_all [inR]
  · simp only [bR, Nat.reduceEqDiff, reduceIte, Int.reduceBNe, Int.reduceBEq, h]
    refine .done (hK _ ?_); clear hK K; simp only [thenQ, blockQ]
    refine AW.ret ?_
    simp only [blockQ, thenQ, bR, Nat.reduceEqDiff, reduceIte, Int.reduceBNe, Int.reduceBEq]
    simp at h
    simp [inR]; omega
theorem F117 (n : Int) : Ctr Try.prog 117 [enc n] (enc (inR 0 31 n)) := by
  refine Ctr.mk' Try.func117 ca117 cc117 cr117 (Nat.le_of_ble_eq_true rfl) (fun hwf W0 D0 E1 => ?_)
  simp only [c117, r117, idx, Nat.zero_add, Nat.reduceAdd]
  refine AW.seq (AW.reg cd117_0 fun K hK => ?_)
  simp only [g117_0, bR, Nat.reduceEqDiff, reduceIte, Int.reduceBNe, Int.reduceBEq]
  refine .done (hK _ ?_); clear hK K; simp only [thenQ, blockQ]
  refine AW.seq (AW.reg cd117_1 fun K hK => ?_)
  simp only [g117_1, bR, Nat.reduceEqDiff, reduceIte, Int.reduceBNe, Int.reduceBEq]
  refine .flat _ (F89 n 0 31) rfl ?_
  simp only [bR, Nat.reduceEqDiff, reduceIte, Int.reduceBNe, Int.reduceBEq]
  refine .done (hK _ ?_); clear hK K; simp only [thenQ, blockQ]
  refine AW.ret ?_
  simp only [blockQ, thenQ, bR, Nat.reduceEqDiff, reduceIte, Int.reduceBNe, Int.reduceBEq]
theorem F78 (a b : Int) : Ctr Try.prog 78 [enc a, enc b] (enc (band a b != 0)) := by
  refine Ctr.mk' Try.func78 ca78 cc78 cr78 (Nat.le_of_ble_eq_true rfl) (fun hwf W0 D0 E1 => ?_)
  simp only [c78, r78, idx, Nat.zero_add, Nat.reduceAdd]
  refine AW.seq (AW.reg cd78_0 fun K hK => ?_)
  simp only [g78_0, bR, Nat.reduceEqDiff, reduceIte, Int.reduceBNe, Int.reduceBEq]
  refine .done (hK _ ?_); clear hK K; simp only [thenQ, blockQ]
  refine AW.seq (AW.reg cd78_1 fun K hK => ?_)
  simp only [g78_1, bR, Nat.reduceEqDiff, reduceIte, Int.reduceBNe, Int.reduceBEq]
  refine .done (hK _ ?_); clear hK K; simp only [thenQ, blockQ]
  refine AW.ret ?_
  simp only [blockQ, thenQ, bR, Nat.reduceEqDiff, reduceIte, Int.reduceBNe, Int.reduceBEq]
  rfl
theorem F77 (w : Arr 5 Int) (m : Arr 6 Int) (i : Nat) (hi : i < 6) (h0 : 0 ≤ m.g i) (h5 : m.g i < 5) : Ctr Try.prog 77 [enc w, enc m, enc (i : Int)] (enc (w.g (m.g i).toNat)) := by
  refine Ctr.mk' Try.func77 ca77 cc77 cr77 (Nat.le_of_ble_eq_true rfl) (fun hwf W0 D0 E1 => ?_)
  simp only [c77, r77, idx, Nat.zero_add, Nat.reduceAdd]
  refine AW.seq (AW.reg cd77_0 fun K hK => ?_)
  simp only [g77_0, bR, Nat.reduceEqDiff, reduceIte, Int.reduceBNe, Int.reduceBEq]
  refine .done (hK _ ?_); clear hK K; simp only [thenQ, blockQ]
  refine AW.seq (AW.reg cd77_1 fun K hK => ?_)
  simp only [g77_1, bR, Nat.reduceEqDiff, reduceIte, Int.reduceBNe, Int.reduceBEq]
  have hk : (m.g i).toNat < 5 := by omega
  simp only [useR, inB_nat 1 m hi rfl, atL_g m hi, okR, bR, Nat.reduceEqDiff, reduceIte, Int.reduceBNe, Int.reduceBEq]
  simp only [useR, inB_int 1 w ⟨h0, h5⟩ rfl, atL_g w hk, okR, bR, Nat.reduceEqDiff, reduceIte, Int.reduceBNe, Int.reduceBEq]
  refine .done (hK _ ?_); clear hK K; simp only [thenQ, blockQ]
  refine AW.ret ?_
  simp only [blockQ, thenQ, bR, Nat.reduceEqDiff, reduceIte, Int.reduceBNe, Int.reduceBEq]
end Go.Proofs.Ytkjkbpgdpnapfaa

/-
  FUNCTIONS OF THE REFERENCE BY CONTRACT: index, distance.
-/
namespace Go.Proofs.Ytkjkbpgdpnapfaa
open Go Go.Abs
open Go.Abs.Enc (enc)
def cnt (p : Nat → Bool) : Nat → Nat
  | 0 => 0
  | n + 1 => cnt p n + if p n then 1 else 0
theorem cnt_le (p : Nat → Bool) : ∀ n, cnt p n ≤ n
  | 0 => Nat.le_refl _
  | n + 1 => by have := cnt_le p n; simp only [cnt]; split <;> omega
/-- Where in the book an owner's mark lies; -1: nowhere. -/
def indexOf (l : List Given) (o : Int) : Int := match l.findIdx? fun g => g.owner == o with
  | some i => i
  | none => -1
/-- Whether a place of two marks differs under a wear. -/
def apartAt (w : Arr 5 Int) (a b : Arr 6 Int) (i : Nat) : Bool := band (w.g (a.g i).toNat) (w.g (b.g i).toNat) == 0
def okMark (m : Arr 6 Int) : Bool := (List.range 6).all fun i => inR 0 4 (m.g i)
theorem okMark_at {m : Arr 6 Int} (h : okMark m = true) {i : Nat} (hi : i < 6) : 0 ≤ m.g i ∧ m.g i < 5 := by
  simp only [okMark, List.all_eq_true, List.mem_range] at h
  have := h i hi
  simp [inR] at this
  omega
theorem F99 (w : Arr 5 Int) (a b : Arr 6 Int) (ha : okMark a = true) (hb : okMark b = true) : Ctr Try.prog 99 [enc w, enc a, enc b] (enc (cnt (apartAt w a b) 6 : Int)) := by
  refine Ctr.mk' Try.func99 ca99 cc99 cr99 (Nat.le_of_ble_eq_true rfl) (fun hwf W0 D0 E1 => ?_)
  simp only [c99, r99, idx, Nat.zero_add, Nat.reduceAdd]
  refine AW.seq (AW.reg cd99_0 fun K hK => ?_)
  simp only [g99_0, bR, Nat.reduceEqDiff, reduceIte, Int.reduceBNe, Int.reduceBEq]
  refine .done (hK _ ?_); clear hK K; simp only [thenQ, blockQ]
  refine AW.seq (AW.reg cd99_1 fun K hK => ?_)
  simp only [g99_1, bR, Nat.reduceEqDiff, reduceIte, Int.reduceBNe, Int.reduceBEq]
  refine .done (hK _ ?_); clear hK K; simp only [thenQ, blockQ]
  refine AW.seq (AW.seq ?_)
  refine AW.reg cd99_2 fun K hK => ?_
  simp only [g99_2, bR, Nat.reduceEqDiff, reduceIte, Int.reduceBNe, Int.reduceBEq]
  refine .done (hK _ ?_); clear hK K; simp only [thenQ, blockQ]
  refine AW.block (AW.loop (fun i : Nat => mkA [(3, .ptr 3 []), (4, .ptr 4 []), (5, .ptr 5 []), (7, .int .i64 (cnt (apartAt w a b) i)), (8, .int .i64 i)] [(3, .box (enc w)), (4, .box (enc a)), (5, .box (enc b))]) (fun i => i ≤ 6) (fun i => 6 - i) 0 (by omega) ?_ (fun i hi => ?_))
  · simp only [cnt]
    refine Sub.of_lists ?_ ?_ ?_ ?_ <;> simp [subT, subO, onlyT, onlyO, isIn, look_cons, lookO_cons, lookO_nil, AV.only, AV.onlys, AO.only, onlys_map, onlys_append, e_only, e_int, e_bool]
  · have hc := cnt_le (apartAt w a b) i
    refine AW.seq (AW.seq ?_)
    refine AW.reg cd99_3 fun K hK => ?_
    simp only [g99_3, bR, Nat.reduceEqDiff, reduceIte, Int.reduceBNe, Int.reduceBEq]
    refine .done (hK _ ?_); clear hK K; simp only [thenQ, blockQ]
    refine AW.ite ?_
    simp only [condQ, bR, Nat.reduceEqDiff, reduceIte, Int.reduceBNe, Int.reduceBEq]
    refine ⟨fun h => ?_, fun h => ?_⟩
    · have hlt : i < 6 := by simp at h; omega
      have h1 := okMark_at ha hlt
      have h2 := okMark_at hb hlt
      refine AW.skip ?_; simp only [thenQ, blockQ, reduceIte, Nat.reduceEqDiff]
      refine AW.seq (AW.block ?_)
      refine AW.seq (AW.reg cd99_4 fun K hK => ?_)
      simp only [g99_4, bR, Nat.reduceEqDiff, reduceIte, Int.reduceBNe, Int.reduceBEq]
      have k1 : (a.g i).toNat < 5 := by omega
      have k2 : (b.g i).toNat < 5 := by omega
      simp only [useR, inB_nat 1 a hlt rfl, atL_g a hlt, okR, bR, Nat.reduceEqDiff, reduceIte, Int.reduceBNe, Int.reduceBEq]
      simp only [useR, inB_int 1 w h1 rfl, atL_g w k1, okR, bR, Nat.reduceEqDiff, reduceIte, Int.reduceBNe, Int.reduceBEq]
      simp only [useR, inB_nat 1 b hlt rfl, atL_g b hlt, okR, bR, Nat.reduceEqDiff, reduceIte, Int.reduceBNe, Int.reduceBEq]
      simp only [useR, inB_int 1 w h2 rfl, atL_g w k2, okR, bR, Nat.reduceEqDiff, reduceIte, Int.reduceBNe, Int.reduceBEq]
      refine .done (hK _ ?_); clear hK K; simp only [thenQ, blockQ]
      refine AW.ite ?_
      simp only [condQ, bR, Nat.reduceEqDiff, reduceIte, Int.reduceBNe, Int.reduceBEq]
      refine ⟨fun h => ?_, fun h => ?_⟩
      · have hap : apartAt w a b i = true := h
        refine AW.reg cd99_5 fun K hK => ?_
        simp only [g99_5, bR, Nat.reduceEqDiff, reduceIte, Int.reduceBNe, Int.reduceBEq]
        refine .done (hK _ ?_); clear hK K; simp only [thenQ, blockQ]
        refine AW.reg cd99_6 fun K hK => ?_
        simp only [g99_6, bR, Nat.reduceEqDiff, reduceIte, Int.reduceBNe, Int.reduceBEq]
        refine .done (hK _ ?_); clear hK K; simp only [thenQ, blockQ]
        refine ⟨i + 1, by omega, by omega, ?_⟩
        rw [wrap_id _ (by omega) (by omega), wrap_id _ (by omega) (by omega)]
        simp only [cnt, hap, if_true]
        refine Sub.of_lists ?_ ?_ ?_ ?_ <;> simp [subT, subO, onlyT, onlyO, isIn, look_cons, lookO_cons, lookO_nil, AV.only, AV.onlys, AO.only, onlys_map, onlys_append, e_only, e_int, e_bool]
      · have hap : apartAt w a b i = false := h
        refine AW.skip ?_; simp only [thenQ, blockQ, reduceIte, Nat.reduceEqDiff]
        refine AW.reg cd99_6 fun K hK => ?_
        simp only [g99_6, bR, Nat.reduceEqDiff, reduceIte, Int.reduceBNe, Int.reduceBEq]
        refine .done (hK _ ?_); clear hK K; simp only [thenQ, blockQ]
        refine ⟨i + 1, by omega, by omega, ?_⟩
        rw [wrap_id _ (by omega) (by omega)]
        simp only [cnt, hap, Bool.false_eq_true, if_false]
        refine Sub.of_lists ?_ ?_ ?_ ?_ <;> simp [subT, subO, onlyT, onlyO, isIn, look_cons, lookO_cons, lookO_nil, AV.only, AV.onlys, AO.only, onlys_map, onlys_append, e_only, e_int, e_bool]
    · have hge : i = 6 := by simp at h; omega
      subst hge
      refine AW.exit ?_; simp only [thenQ, blockQ, reduceIte, Nat.reduceEqDiff]
      refine AW.seq (AW.reg cd99_7 fun K hK => ?_)
      simp only [g99_7, bR, Nat.reduceEqDiff, reduceIte, Int.reduceBNe, Int.reduceBEq]
      refine .done (hK _ ?_); clear hK K; simp only [thenQ, blockQ]
      refine AW.ret ?_
      simp only [blockQ, thenQ, bR, Nat.reduceEqDiff, reduceIte, Int.reduceBNe, Int.reduceBEq]
end Go.Proofs.Ytkjkbpgdpnapfaa

/-
  SMALL FUNCTIONS OF THE REFERENCE, EACH BY ITS CONTRACT: Members, CheckWear, Same.
-/
namespace Go.Proofs.Ytkjkbpgdpnapfaa
open Go Go.Abs
open Go.Abs.Enc (enc)
/-- Whether a bit is set. -/
def bit (w : Int) (k : Nat) : Bool := band w (shl 1 k) != 0
def members (w : Int) : Nat → List Int
  | 0 => []
  | k + 1 => members w k ++ if bit w k then [(k : Int)] else []
theorem members_le (w : Int) : ∀ k, (members w k).length ≤ k
  | 0 => Nat.le_refl _
  | k + 1 => by
    have := members_le w k
    simp only [members, List.length_append]
    split <;> simp <;> omega
theorem F16 (a b : List Int) : Ctr Try.prog 16 [enc a, enc b] (enc (decide (a = b))) := by
  refine Ctr.mk' Try.func16 ca16 cc16 cr16 (Nat.le_of_ble_eq_true rfl) (fun hwf W0 D0 E1 => ?_)
  simp only [c16, r16, idx, Nat.zero_add, Nat.reduceAdd]
  have hlen : a.length ≤ maxLen := ((wf_list a).1 hwf.1).1
  simp only [maxLen] at hlen
  refine AW.seq (AW.reg cd16_0 fun K hK => ?_)
  simp only [g16_0, bR, Nat.reduceEqDiff, reduceIte, Int.reduceBNe, Int.reduceBEq]
  refine .done (hK _ ?_); clear hK K; simp only [thenQ, blockQ]
  refine AW.seq (AW.seq ?_)
  refine AW.reg cd16_1 fun K hK => ?_
  simp only [g16_1, bR, Nat.reduceEqDiff, reduceIte, Int.reduceBNe, Int.reduceBEq]
  simp only [useR, bR, Nat.reduceEqDiff, reduceIte, Int.reduceBNe, Int.reduceBEq]
  refine .done (hK _ ?_); clear hK K; simp only [thenQ, blockQ]
  refine AW.ite ?_
  simp only [condQ, bR, Nat.reduceEqDiff, reduceIte, Int.reduceBNe, Int.reduceBEq]
  refine ⟨fun h => ?_, fun h => ?_⟩
  · refine AW.seq (AW.reg cd16_2 fun K hK => ?_)
    simp only [g16_2, bR, Nat.reduceEqDiff, reduceIte, Int.reduceBNe, Int.reduceBEq]
    refine .done (hK _ ?_); clear hK K; simp only [thenQ, blockQ]
    refine AW.ret ?_
    simp only [blockQ, thenQ, bR, Nat.reduceEqDiff, reduceIte, Int.reduceBNe, Int.reduceBEq]
    simp at h
    have : a ≠ b := fun e => h (by rw [e])
    simp [this]
  · have hab : a.length = b.length := by simp at h; omega
    refine AW.skip ?_; simp only [thenQ, blockQ, reduceIte, Nat.reduceEqDiff]
    refine AW.seq ?_
    refine AW.seq (AW.reg cd16_3 fun K hK => ?_)
    simp only [g16_3, bR, Nat.reduceEqDiff, reduceIte, Int.reduceBNe, Int.reduceBEq]
    refine .done (hK _ ?_); clear hK K; simp only [thenQ, blockQ]
    refine AW.block (AW.loop (fun i : Nat => mkA [(0, enc a), (1, enc b), (5, .int .i64 i)] []) (fun i => i ≤ a.length ∧ a.take i = b.take i) (fun i => a.length - i) 0 ⟨Nat.zero_le _, by simp⟩ ?_ (fun i hi => ?_))
    · refine Sub.of_lists ?_ ?_ ?_ ?_ <;> simp [subT, subO, onlyT, onlyO, isIn, look_cons, lookO_cons, lookO_nil, AV.only, AV.onlys, AO.only, onlys_map, onlys_append, e_only, e_int, e_bool]
    · refine AW.seq (AW.seq ?_)
      refine AW.reg cd16_4 fun K hK => ?_
      simp only [g16_4, bR, Nat.reduceEqDiff, reduceIte, Int.reduceBNe, Int.reduceBEq]
      simp only [useR, bR, Nat.reduceEqDiff, reduceIte, Int.reduceBNe, Int.reduceBEq]
      refine .done (hK _ ?_); clear hK K; simp only [thenQ, blockQ]
      refine AW.ite ?_
      simp only [condQ, bR, Nat.reduceEqDiff, reduceIte, Int.reduceBNe, Int.reduceBEq]
      refine ⟨fun h => ?_, fun h => ?_⟩
      · have hlt : i < a.length := by simpa using h
        have hlb : i < b.length := by omega
        refine AW.skip ?_; simp only [thenQ, blockQ, reduceIte, Nat.reduceEqDiff]
        refine AW.seq (AW.block ?_)
        refine AW.seq (AW.reg cd16_5 fun K hK => ?_)
        simp only [g16_5, bR, Nat.reduceEqDiff, reduceIte, Int.reduceBNe, Int.reduceBEq]
        simp only [isE_nat 1 hlt rfl, isE_nat 1 hlb rfl, okR, bR, Nat.reduceEqDiff, reduceIte, Int.reduceBNe, Int.reduceBEq]
        refine .done (hK _ ?_); clear hK K; simp only [thenQ, blockQ]
        refine AW.ite ?_
        simp only [condQ, bR, Nat.reduceEqDiff, reduceIte, Int.reduceBNe, Int.reduceBEq]
        refine ⟨fun h => ?_, fun h => ?_⟩
        · refine AW.seq (AW.reg cd16_6 fun K hK => ?_)
          simp only [g16_6, bR, Nat.reduceEqDiff, reduceIte, Int.reduceBNe, Int.reduceBEq]
          refine .done (hK _ ?_); clear hK K; simp only [thenQ, blockQ]
          refine AW.ret ?_
          simp only [blockQ, thenQ, bR, Nat.reduceEqDiff, reduceIte, Int.reduceBNe, Int.reduceBEq]
          have hne : a ≠ b := fun e => by subst e; simp at h
          simp [hne]
        · refine AW.skip ?_; simp only [thenQ, blockQ, reduceIte, Nat.reduceEqDiff]
          refine AW.reg cd16_7 fun K hK => ?_
          simp only [g16_7, bR, Nat.reduceEqDiff, reduceIte, Int.reduceBNe, Int.reduceBEq]
          refine .done (hK _ ?_); clear hK K; simp only [thenQ, blockQ]
          refine ⟨i + 1, ⟨by omega, ?_⟩, by omega, ?_⟩
          · rw [List.take_succ_eq_append_getElem hlt, List.take_succ_eq_append_getElem hlb, hi.2]
            simp at h
            rw [h]
          · rw [wrap_id _ (by omega) (by omega)]
            refine Sub.of_lists ?_ ?_ ?_ ?_ <;> simp [subT, subO, onlyT, onlyO, isIn, look_cons, lookO_cons, lookO_nil, AV.only, AV.onlys, AO.only, onlys_map, onlys_append, e_only, e_int, e_bool]
      · have hge : i = a.length := by simp at h; omega
        refine AW.exit ?_; simp only [thenQ, blockQ, reduceIte, Nat.reduceEqDiff]
        refine AW.seq (AW.reg cd16_8 fun K hK => ?_)
        simp only [g16_8, bR, Nat.reduceEqDiff, reduceIte, Int.reduceBNe, Int.reduceBEq]
        refine .done (hK _ ?_); clear hK K; simp only [thenQ, blockQ]
        refine AW.ret ?_
        simp only [blockQ, thenQ, bR, Nat.reduceEqDiff, reduceIte, Int.reduceBNe, Int.reduceBEq]
        have : a = b := by
          have := hi.2
          rw [hge, List.take_length] at this
          rw [hab, List.take_length] at this
          exact this
        simp [this]
end Go.Proofs.Ytkjkbpgdpnapfaa

/-
  THE REFERENCE'S CHECK OF A BOOK OF MARKS, BY CONTRACT.
-/
namespace Go.Proofs.Ytkjkbpgdpnapfaa
open Go Go.Abs
open Go.Abs.Enc (enc)
def gv (m : Marks) (i : Nat) : Given := m.given.getD i ⟨0, ⟨List.replicate 6 0, rfl⟩⟩
theorem gv_eq {m : Marks} {i : Nat} (h : i < m.given.length) : m.given[i] = gv m i := by simp [gv, List.getD_eq_getElem?_getD, h]
theorem isE_gv {A : AState} {m : Marks} {i : Nat} (h : i < m.given.length) : isE A 7 (i : Int) (enc m.given) = some (.ref (enc (gv m i))) := by
  rw [isE_nat 7 h rfl, gv_eq h]
def okWear (w : Arr 5 Int) : Bool := (List.range 5).all (fun i => inR 0 31 (w.g i) && bit (w.g i) i)
def tooNear (m : Marks) (a b : Arr 6 Int) : Bool := decide ((cnt (apartAt m.wear a b) 6 : Int) ≤ IntKind.i64.wrap (2 * m.fls))
def okAt (m : Marks) (i : Nat) : Bool := inR 1 99 (gv m i).owner && (okMark (gv m i).mark && ((i == 0 || decide ((gv m (i - 1)).owner < (gv m i).owner)) && (List.range i).all (fun j => !tooNear m (gv m j).mark (gv m i).mark)))
/-- What the check asks of a book. -/
def okM (m : Marks) : Bool := okWear m.wear && (inR 0 2 m.fls && (decide (m.given.length ≤ 40) && (List.range m.given.length).all (okAt m)))
theorem okAt_mark {m : Marks} {i : Nat} (h : okAt m i = true) : okMark (gv m i).mark = true := by
  simp only [okAt, Bool.and_eq_true] at h
  exact h.2.1
end Go.Proofs.Ytkjkbpgdpnapfaa

/-
  FUNCTIONS OF THE REFERENCE BY CONTRACT: cost, owners, near.
-/
namespace Go.Proofs.Ytkjkbpgdpnapfaa
open Go Go.Abs
open Go.Abs.Enc (enc)
def costAt (w : Arr 5 Int) (a : Arr 6 Int) (r : Arr 6 Int) (i : Nat) : Bool := band (w.g (a.g i).toNat) (r.g i) == 0
def costOf (w : Arr 5 Int) (a r : Arr 6 Int) : Int := (cnt (costAt w a r) 6 : Int)
/-- A book that can be reckoned with: not endless, its marks are marks. -/
structure okBook (m : Marks) : Prop where
  len : m.given.length ≤ 1099511627776
  mark : ∀ g ∈ m.given, okMark g.mark = true
def ownersIn (m : Marks) (r : Arr 6 Int) (l : List Given) : List Int := (l.filter fun g => decide (costOf m.wear g.mark r ≤ m.fls)).map (·.owner)
theorem F83 (m : Marks) (k : Arr 6 Int) (hm : okBook m) (hk : okMark k = true) : Ctr Try.prog 83 [enc m, enc k] (enc (m.given.any fun g => decide ((cnt (apartAt m.wear g.mark k) 6 : Int) ≤ IntKind.i64.wrap (2 * m.fls)))) := by
  refine Ctr.mk' Try.func83 ca83 cc83 cr83 (Nat.le_of_ble_eq_true rfl) (fun hwf W0 D0 E1 => ?_)
  simp only [c83, r83, idx, Nat.zero_add, Nat.reduceAdd]
  have hlen := hm.len
  refine AW.seq (AW.reg cd83_0 fun K hK => ?_)
  simp only [g83_0, bR, Nat.reduceEqDiff, reduceIte, Int.reduceBNe, Int.reduceBEq]
  refine .done (hK _ ?_); clear hK K; simp only [thenQ, blockQ]
  refine AW.seq ?_
  refine AW.seq (AW.reg cd83_1 fun K hK => ?_)
  simp only [g83_1, bR, Nat.reduceEqDiff, reduceIte, Int.reduceBNe, Int.reduceBEq]
  refine .done (hK _ ?_); clear hK K; simp only [thenQ, blockQ]
  refine AW.block (AW.loop (fun i : Nat => mkA [(2, .ptr 2 []), (3, .ptr 3 []), (5, .int .i64 i)] [(2, .box (enc m)), (3, .box (enc k))]) (fun i => i ≤ m.given.length ∧ ∀ j (h : j < m.given.length), j < i → (decide ((cnt (apartAt m.wear m.given[j].mark k) 6 : Int) ≤ IntKind.i64.wrap (2 * m.fls))) = false) (fun i => m.given.length - i) 0 ⟨by omega, fun k _ h => by omega⟩ ?_ (fun i hi => ?_))
  · refine Sub.of_lists ?_ ?_ ?_ ?_ <;> simp [subT, subO, onlyT, onlyO, isIn, look_cons, lookO_cons, lookO_nil, AV.only, AV.onlys, AO.only, onlys_map, onlys_append, e_only, e_int, e_bool]
  · refine AW.seq (AW.seq ?_)
    refine AW.reg cd83_2 fun K hK => ?_
    simp only [g83_2, bR, Nat.reduceEqDiff, reduceIte, Int.reduceBNe, Int.reduceBEq]
    simp only [typR, useR, okR, bR, Nat.reduceEqDiff, reduceIte, Int.reduceBNe, Int.reduceBEq]
    refine .done (hK _ ?_); clear hK K; simp only [thenQ, blockQ]
    refine AW.ite ?_
    simp only [condQ, bR, Nat.reduceEqDiff, reduceIte, Int.reduceBNe, Int.reduceBEq]
    refine ⟨fun h => ?_, fun h => ?_⟩
    · have hlt : i < m.given.length := by simpa using h
      refine AW.skip ?_; simp only [thenQ, blockQ, reduceIte, Nat.reduceEqDiff]
      refine AW.seq (AW.block ?_)
      refine AW.seq (AW.reg cd83_3 fun K hK => ?_)
      simp only [g83_3, bR, Nat.reduceEqDiff, reduceIte, Int.reduceBNe, Int.reduceBEq]
      simp only [typR, useR, okR, isE_nat 7 hlt rfl, e_fin, bR, Nat.reduceEqDiff, reduceIte, Int.reduceBNe, Int.reduceBEq]
      refine .flat _ (F99 m.wear m.given[i].mark k (hm.mark _ (List.getElem_mem _)) hk) rfl ?_
      simp only [typR, useR, okR, isE_nat 7 hlt rfl, bR, Nat.reduceEqDiff, reduceIte, Int.reduceBNe, Int.reduceBEq]
      refine .done (hK _ ?_); clear hK K; simp only [thenQ, blockQ]
      refine AW.ite ?_
      simp only [condQ, bR, Nat.reduceEqDiff, reduceIte, Int.reduceBNe, Int.reduceBEq]
      refine ⟨fun h => ?_, fun h => ?_⟩
      · refine AW.seq (AW.reg cd83_4 fun K hK => ?_)
        simp only [g83_4, bR, Nat.reduceEqDiff, reduceIte, Int.reduceBNe, Int.reduceBEq]
        refine .done (hK _ ?_); clear hK K; simp only [thenQ, blockQ]
        refine AW.ret ?_
        simp only [blockQ, thenQ, bR, Nat.reduceEqDiff, reduceIte, Int.reduceBNe, Int.reduceBEq]
        have : (m.given.any fun g => decide ((cnt (apartAt m.wear g.mark k) 6 : Int) ≤ IntKind.i64.wrap (2 * m.fls))) = true := List.any_eq_true.2 ⟨_, List.getElem_mem hlt, h⟩
        rw [this]
      · refine AW.skip ?_; simp only [thenQ, blockQ, reduceIte, Nat.reduceEqDiff]
        refine AW.reg cd83_5 fun K hK => ?_
        simp only [g83_5, bR, Nat.reduceEqDiff, reduceIte, Int.reduceBNe, Int.reduceBEq]
        refine .done (hK _ ?_); clear hK K; simp only [thenQ, blockQ]
        refine ⟨i + 1, ⟨by omega, fun j hj hji => ?_⟩, by omega, ?_⟩
        · by_cases hj' : j = i
          · subst hj'; exact h
          · exact hi.2 j hj (by omega)
        · rw [wrap_id _ (by omega) (by omega)]
          refine Sub.of_lists ?_ ?_ ?_ ?_ <;> simp [subT, subO, onlyT, onlyO, isIn, look_cons, lookO_cons, lookO_nil, AV.only, AV.onlys, AO.only, onlys_map, onlys_append, e_only, e_int, e_bool]
    · have hge : i = m.given.length := by simp at h; omega
      refine AW.exit ?_; simp only [thenQ, blockQ, reduceIte, Nat.reduceEqDiff]
      refine AW.seq (AW.reg cd83_6 fun K hK => ?_)
      simp only [g83_6, bR, Nat.reduceEqDiff, reduceIte, Int.reduceBNe, Int.reduceBEq]
      refine .done (hK _ ?_); clear hK K; simp only [thenQ, blockQ]
      refine AW.ret ?_
      simp only [blockQ, thenQ, bR, Nat.reduceEqDiff, reduceIte, Int.reduceBNe, Int.reduceBEq]
      have : (m.given.any fun g => decide ((cnt (apartAt m.wear g.mark k) 6 : Int) ≤ IntKind.i64.wrap (2 * m.fls))) = false := by
        rw [List.any_eq_false]
        intro x hx
        obtain ⟨j, hj, rfl⟩ := List.getElem_of_mem hx
        simpa using hi.2 j hj (by omega)
      rw [this]
end Go.Proofs.Ytkjkbpgdpnapfaa

/-
  FUNCTIONS OF THE REFERENCE BY CONTRACT: asked, Owners, Owner, MarkOf.
-/
namespace Go.Proofs.Ytkjkbpgdpnapfaa
open Go Go.Abs
open Go.Abs.Enc (enc)
theorem okM_book {m : Marks} (h : okM m = true) : okBook m := by
  simp only [okM, Bool.and_eq_true, decide_eq_true_eq, List.all_eq_true, List.mem_range] at h
  refine ⟨by omega, fun g hg => ?_⟩
  obtain ⟨i, hi, rfl⟩ := List.getElem_of_mem hg
  rw [gv_eq hi]
  exact okAt_mark (h.2.2.2 i hi)
def okReading (r : Arr 6 Int) : Bool := (List.range 6).all fun i => inR 1 31 (r.g i)
def askedOf (m : Marks) (o : Int) : Int := if okM m then (if inR 1 99 o then 0 else 15) else 13
def ownersOf (m : Marks) (r : Arr 6 Int) : List Int × Int := if okM m then (if okReading r then (ownersIn m r m.given, 0) else ([], 12)) else ([], 13)
theorem nilInt : AV.slice 1 [] = enc ([] : List Int) := rfl
end Go.Proofs.Ytkjkbpgdpnapfaa

/-
  FUNCTIONS OF THE REFERENCE BY CONTRACT: MarkOf, Cost, Distance.
-/
namespace Go.Proofs.Ytkjkbpgdpnapfaa
open Go Go.Abs
open Go.Abs.Enc (enc)
def zero6 : Arr 6 Int := ⟨List.replicate 6 0, rfl⟩
theorem e_zero6 : AV.agg [.int .i64 0, .int .i64 0, .int .i64 0, .int .i64 0, .int .i64 0, .int .i64 0] = enc zero6 := rfl
def markOf (m : Marks) (o : Int) : Arr 6 Int × Int :=
  if askedOf m o ≠ 0 then (zero6, askedOf m o) else if indexOf m.given o < 0 then (zero6, 3) else ((gv m (indexOf m.given o).toNat).mark, 0)
end Go.Proofs.Ytkjkbpgdpnapfaa

/-
  FUNCTIONS OF slices BY CONTRACT, over given marks: Clone, DeleteFunc.
-/
namespace Go.Proofs.Ytkjkbpgdpnapfaa
open Go Go.Abs
open Go.Abs.Enc (enc)
instance : Lean0 Given := ⟨fun g => by
  show (AV.agg [.int .i64 g.owner, enc g.mark]).lean = true
  simp only [AV.lean, AV.leans, e_lean, Bool.and_self]⟩
def g0 : Given := ⟨0, zero6⟩
theorem e_g0 : AV.agg [.int .i64 0, .agg [.int .i64 0, .int .i64 0, .int .i64 0, .int .i64 0, .int .i64 0, .int .i64 0]] = enc g0 := rfl
theorem map_only (p : Nat → Bool) (l : List Given) : (AV.agg (l.map enc)).only p = true := by simp only [AV.only]; exact onlys_map p l
theorem map_lean (l : List Given) : (AV.agg (l.map enc)).lean = true := by simp only [AV.lean]; exact leans_map l
/-- A slice of given marks of the caller's own, with room behind it. -/
def rowG (k : Nat) (l : List Given) (m : Nat) : List (Nat × AO) := [(k, .box (.agg ((l ++ List.replicate m g0).map enc)))]
def clonePost (l : List Given) : Post := fun r os' => (l = [] ∧ (r = .nils 7 ∨ r = .c0 7) ∧ os' = []) ∨ (l ≠ [] ∧ ∃ m, r = .view 7 [] 7 0 l.length ∧ os' = rowG 7 l m)
theorem F85 (l : List Given) (hl : l.length ≤ 1000) : CtrO Try.prog 85 [enc l] [] (clonePost l) := by
  refine CtrO.mk' Try.func85 ca85 cc85 cr85 (Nat.le_of_ble_eq_true rfl) (Nat.le_of_ble_eq_true rfl) (fun m hm => by simp [isIn, lookO] at hm) (fun hwf W0 D0 E1 => ?_)
  simp only [c85, r85, idx, Nat.zero_add, Nat.reduceAdd]
  refine AW.seq (AW.reg cd85_0 fun K hK => ?_)
  simp only [g85_0, bR, Nat.reduceEqDiff, reduceIte, Int.reduceBNe, Int.reduceBEq]
  refine .done (hK _ ?_); clear hK K; simp only [thenQ, blockQ]
  refine AW.seq (AW.seq ?_)
  by_cases hn : l = []
  · subst hn
    refine AW.reg cd85_1 fun K hK => ?_
    simp only [g85_1, bR, Nat.reduceEqDiff, reduceIte, Int.reduceBNe, Int.reduceBEq]
    simp only [und_enc, List.isEmpty_nil, nilR]
    refine .any rfl fun b _ => ?_
    simp only [bR, Nat.reduceEqDiff, reduceIte, Int.reduceBNe, Int.reduceBEq]
    generalize (b == 0) = t
    cases t
    · refine .done (hK _ ?_); clear hK K; simp only [thenQ, blockQ]
      refine AW.ite ?_
      simp only [condQ, bR, Nat.reduceEqDiff, reduceIte, Int.reduceBNe, Int.reduceBEq]
      refine ⟨fun h => ?_, fun h => ?_⟩
      · cases h
      refine AW.skip ?_; simp only [thenQ, blockQ, reduceIte, Nat.reduceEqDiff]
      refine AW.seq (AW.reg cd85_3 fun K hK => ?_)
      simp only [g85_3, bR, Nat.reduceEqDiff, reduceIte, Int.reduceBNe, Int.reduceBEq]
      simp only [viewR, e_g0, appR_nothing (α := Given) _ rfl, bR, Nat.reduceEqDiff, reduceIte, Int.reduceBNe, Int.reduceBEq]
      refine .done (hK _ ?_); clear hK K; simp only [thenQ, blockQ]
      refine AW.ret ?_
      simp only [blockQ, thenQ, retO_ret]
      exact ⟨[], [.c0 7], held0, ⟨⟨.c0 7, rfl, .inl ⟨rfl, rfl, rfl⟩⟩, trivial⟩, .inl ⟨rfl, .inr rfl, rfl⟩⟩
    · refine .done (hK _ ?_); clear hK K; simp only [thenQ, blockQ]
      refine AW.ite ?_
      simp only [condQ, bR, Nat.reduceEqDiff, reduceIte, Int.reduceBNe, Int.reduceBEq]
      refine ⟨fun h => ?_, fun h => ?_⟩
      · refine AW.seq (AW.reg cd85_2 fun K hK => ?_)
        simp only [g85_2, bR, Nat.reduceEqDiff, reduceIte, Int.reduceBNe, Int.reduceBEq]
        refine .done (hK _ ?_); clear hK K; simp only [thenQ, blockQ]
        refine AW.ret ?_
        simp only [blockQ, thenQ, retO_ret]
        exact ⟨[], [.nils 7], held0, ⟨⟨.nils 7, rfl, .inl ⟨rfl, rfl, rfl⟩⟩, trivial⟩, .inl ⟨rfl, .inl rfl, rfl⟩⟩
      · cases h
  · have hu : und (enc l) = false := by rw [und_enc]; simpa using hn
    refine AW.reg cd85_1 fun K hK => ?_
    simp only [g85_1, bR, Nat.reduceEqDiff, reduceIte, Int.reduceBNe, Int.reduceBEq]
    simp only [hu, nilE_enc _ l hn, bR, Nat.reduceEqDiff, reduceIte, Int.reduceBNe, Int.reduceBEq]
    refine .done (hK _ ?_); clear hK K; simp only [thenQ, blockQ]
    refine AW.ite ?_
    simp only [condQ, bR, Nat.reduceEqDiff, reduceIte, Int.reduceBNe, Int.reduceBEq]
    refine ⟨fun h => ?_, fun h => ?_⟩
    · cases h
    refine AW.skip ?_; simp only [thenQ, blockQ, reduceIte, Nat.reduceEqDiff]
    refine AW.seq (AW.reg cd85_3 fun K hK => ?_)
    simp only [g85_3, bR, Nat.reduceEqDiff, reduceIte, Int.reduceBNe, Int.reduceBEq]
    simp only [viewR, e_g0, bR, Nat.reduceEqDiff, reduceIte, Int.reduceBNe, Int.reduceBEq]
    refine WP.appNew g0 rfl hn rfl (by omega) (by simp only [maxLen]; omega) fun m => ?_
    simp only [bR, Nat.reduceEqDiff, reduceIte, Int.reduceBNe, Int.reduceBEq]
    refine .done (hK _ ?_); clear hK K; simp only [thenQ, blockQ]
    refine AW.ret ?_
    simp only [blockQ, thenQ, retO_ret]
    exact ⟨rowG 7 l m, [.view 7 [] 7 0 l.length], held1 rfl (fun p => map_only p _), ⟨⟨_, rfl, .inl ⟨rfl, rfl, rfl⟩⟩, trivial⟩, .inr ⟨hn, m, rfl, rfl⟩⟩
end Go.Proofs.Ytkjkbpgdpnapfaa

/-
  ARRAYS WRITTEN PLACE BY PLACE; by contract: Numbered.
-/
namespace Go.Proofs.Ytkjkbpgdpnapfaa
open Go Go.Abs
open Go.Abs.Enc (enc)
def upd {n : Nat} (x : Arr n Int) (k : Nat) (v : Int) : Arr n Int := ⟨x.l.set k v, by simp [x.h]⟩
theorem g_upd {n : Nat} (x : Arr n Int) (k j : Nat) (v : Int) (h : k < n) : (upd x k v).g j = if k = j then v else x.g j := by
  simp only [Arr.g, upd, List.getD_eq_getElem?_getD, List.getElem?_set]
  by_cases hkj : k = j
  · subst hkj; simp [x.lt h]
  · simp [hkj]
theorem setAt_g {n k : Nat} (x : Arr n Int) (h : k < n) (v : Int) : (enc x : AV).setAt [k] (.int .i64 v) = enc (upd x k v) := by
  have h1 : (enc x : AV).flds = some (x.l.map enc) := rfl
  rw [setAt_cons, h1]
  simp only [setL, get_g x h, setO2, setAt_nil]
  change AV.agg _ = AV.agg ((x.l.set k v).map enc)
  rw [List.map_set]; rfl
theorem stR3_g {A : AState} {n m k : Nat} (x : Arr m Int) (h : k < m) {v u : Int} {rest : List G} : stR3 A none n [k] (enc x) (.int .i64 v) rest (some (.int .i64 u)) = aops rest (A.setO n (.box (enc (upd x k v)))) := by
  rw [stR3_ok (s := none) (v := .int .i64 v) (old := .int .i64 u) rfl rfl rfl, setAt_g x h]
def nd (n : Int) : Nat → Int
  | 0 => n
  | k + 1 => (nd n k).tdiv 5
def digits (n : Int) : Nat → Arr 6 Int
  | 0 => zero6
  | k + 1 => upd (digits n k) (5 - k) ((nd n k).tmod 5)
theorem nd_in (n : Int) (h : -9223372036854775808 ≤ n ∧ n ≤ 9223372036854775807) : ∀ k, -9223372036854775808 ≤ nd n k ∧ nd n k ≤ 9223372036854775807
  | 0 => h
  | k + 1 => by
    have := nd_in n h k
    simp only [nd]
    rcases Int.le_total 0 (nd n k) with h0 | h0
    · rw [Int.tdiv_eq_ediv_of_nonneg h0]; omega
    · have : (nd n k).tdiv 5 = -((-(nd n k)) / 5) := by
        rw [← Int.tdiv_eq_ediv_of_nonneg (by omega), Int.neg_tdiv, Int.neg_neg]
      omega
theorem F35 (n : Int) : Ctr Try.prog 35 [enc n] (enc (digits n 6)) := by
  refine Ctr.mk' Try.func35 ca35 cc35 cr35 (Nat.le_of_ble_eq_true rfl) (fun hwf W0 D0 E1 => ?_)
  simp only [c35, r35, idx, Nat.zero_add, Nat.reduceAdd]
  have hin := nd_in n ((wf_int n).1 hwf.1)
  have h5 : ¬ (5 : Int) = 0 := by decide
  refine AW.seq (AW.reg cd35_0 fun K hK => ?_)
  simp only [g35_0, bR, Nat.reduceEqDiff, reduceIte, Int.reduceBNe, Int.reduceBEq]
  refine .done (hK _ ?_); clear hK K; simp only [thenQ, blockQ]
  refine AW.seq (AW.reg cd35_1 fun K hK => ?_)
  simp only [g35_1, bR, Nat.reduceEqDiff, reduceIte, Int.reduceBNe, Int.reduceBEq]
  simp only [e_zero6]
  refine .done (hK _ ?_); clear hK K; simp only [thenQ, blockQ]
  refine AW.seq (AW.seq ?_)
  refine AW.reg cd35_2 fun K hK => ?_
  simp only [g35_2, bR, Nat.reduceEqDiff, reduceIte, Int.reduceBNe, Int.reduceBEq]
  refine .done (hK _ ?_); clear hK K; simp only [thenQ, blockQ]
  refine AW.block (AW.loop (fun k : Nat => mkA [(0, .int .i64 (nd n k)), (2, .ptr 2 []), (3, .ptr 3 []), (4, .int .i64 (5 - k))] [(2, .box (enc zero6)), (3, .box (enc (digits n k)))]) (fun k => k ≤ 6) (fun k => 6 - k) 0 (by omega) ?_ (fun k hk => ?_))
  · refine Sub.of_lists ?_ ?_ ?_ ?_ <;> simp [subT, subO, onlyT, onlyO, isIn, look_cons, lookO_cons, lookO_nil, AV.only, AV.onlys, AO.only, onlys_map, onlys_append, e_only, e_int, e_bool]
    all_goals rfl
  refine AW.seq (AW.seq ?_)
  refine AW.reg cd35_3 fun K hK => ?_
  simp only [g35_3, bR, Nat.reduceEqDiff, reduceIte, Int.reduceBNe, Int.reduceBEq]
  refine .done (hK _ ?_); clear hK K; simp only [thenQ, blockQ]
  refine AW.ite ?_
  simp only [condQ, bR, Nat.reduceEqDiff, reduceIte, Int.reduceBNe, Int.reduceBEq]
  refine ⟨fun h => ?_, fun h => ?_⟩
  · have hlt : k < 6 := by simp at h; omega
    have hd := hin k
    have e1 : ((5 : Int) - k).toNat = 5 - k := by omega
    have hlt' : 5 - k < 6 := by omega
    refine AW.skip ?_; simp only [thenQ, blockQ, reduceIte, Nat.reduceEqDiff]
    refine AW.seq (AW.block ?_)
    refine AW.seq (AW.reg cd35_4 fun K hK => ?_)
    simp only [g35_4, bR, Nat.reduceEqDiff, reduceIte, Int.reduceBNe, Int.reduceBEq]
    simp only [h5, useR, inB_int 1 (digits n k) (show (0 : Int) ≤ 5 - k ∧ (5 : Int) - k < (6 : Nat) by omega) rfl, e1, atL_g (digits n k) hlt', stR3_g (digits n k) hlt', bR, Nat.reduceEqDiff, reduceIte, Int.reduceBNe, Int.reduceBEq]
    refine .done (hK _ ?_); clear hK K; simp only [thenQ, blockQ]
    refine AW.reg cd35_5 fun K hK => ?_
    simp only [g35_5, bR, Nat.reduceEqDiff, reduceIte, Int.reduceBNe, Int.reduceBEq]
    simp only [h5, bR, Nat.reduceEqDiff, reduceIte, Int.reduceBNe, Int.reduceBEq]
    refine .done (hK _ ?_); clear hK K; simp only [thenQ, blockQ]
    refine AW.reg cd35_6 fun K hK => ?_
    simp only [g35_6, bR, Nat.reduceEqDiff, reduceIte, Int.reduceBNe, Int.reduceBEq]
    refine .done (hK _ ?_); clear hK K; simp only [thenQ, blockQ]
    refine ⟨k + 1, by omega, by omega, ?_⟩
    have hq := hin (k + 1)
    simp only [nd] at hq
    rw [wrap_id _ (by omega) (by omega), wrap_id _ hq.1 hq.2]
    have e2 : (5 : Int) - k - 1 = 5 - ((k + 1 : Nat) : Int) := by omega
    rw [e2]
    simp only [nd, digits]
    refine Sub.of_lists ?_ ?_ ?_ ?_ <;> simp [subT, subO, onlyT, onlyO, isIn, look_cons, lookO_cons, lookO_nil, AV.only, AV.onlys, AO.only, onlys_map, onlys_append, e_only, e_int, e_bool]
  · have hge : k = 6 := by simp at h; omega
    subst hge
    refine AW.exit ?_; simp only [thenQ, blockQ, reduceIte, Nat.reduceEqDiff]
    refine AW.seq (AW.reg cd35_7 fun K hK => ?_)
    simp only [g35_7, bR, Nat.reduceEqDiff, reduceIte, Int.reduceBNe, Int.reduceBEq]
    simp only [typR, useR, bR, Nat.reduceEqDiff, reduceIte, Int.reduceBNe, Int.reduceBEq]
    rw [stR3_ok (e_isVal _) (by rw [e_okS]; rfl) ((e_sh _).trans (e_sh _).symm)]
    simp only [bR, Nat.reduceEqDiff, reduceIte, Int.reduceBNe, Int.reduceBEq]
    refine .done (hK _ ?_); clear hK K; simp only [thenQ, blockQ]
    refine AW.ret ?_
    simp only [blockQ, thenQ, bR, Nat.reduceEqDiff, reduceIte, Int.reduceBNe, Int.reduceBEq]
    simp only [typR, e_fin, bR, Nat.reduceEqDiff, reduceIte, Int.reduceBNe, Int.reduceBEq]
end Go.Proofs.Ytkjkbpgdpnapfaa

/-
  EQUALITY OF ARRAYS AND OF GIVEN MARKS, AS THE PROGRAM TELLS IT; by contract: SameMarks (under way).
-/
namespace Go.Proofs.Ytkjkbpgdpnapfaa
open Go Go.Abs
open Go.Abs.Enc (enc)
theorem eqE_int (a b : Int) : eqE (.i .i64) (enc a) (enc b) = some (a == b) := by simp [e_int, eqE]
theorem foldr_ints : ∀ (x y : List Int), x.length = y.length → ((x.map (enc (α := Int))).zip (y.map (enc (α := Int)))).foldr (fun p acc => andO (eqE (.i .i64) p.1 p.2) acc) (some true) = some (decide (x = y))
  | [], [], _ => by simp
  | a :: x, b :: y, h => by
    have ih := foldr_ints x y (by simpa using h)
    rw [List.map_cons, List.map_cons, List.zip_cons_cons, List.foldr_cons, ih, eqE_int]
    by_cases hab : a = b <;> by_cases hxy : x = y <;> simp [andO, hab, hxy]
theorem eqE_arr {n : Nat} (x y : Arr n Int) : eqE (.ar n (.i .i64)) (enc x) (enc y) = some (decide (x.l = y.l)) := by
  change eqE (.ar n (.i .i64)) (.agg (x.l.map enc)) (.agg (y.l.map enc)) = _
  rw [eqE, if_pos ⟨by simp [x.h], by simp [y.h]⟩]
  exact foldr_ints x.l y.l (by rw [x.h, y.h])
theorem eqE_given (x y : Given) : eqE (.st [.i .i64, .ar 6 (.i .i64)]) (enc x) (enc y) = some (decide (x.owner = y.owner) && decide (x.mark.l = y.mark.l)) := by
  change eqE _ (.agg [enc x.owner, enc x.mark]) (.agg [enc y.owner, enc y.mark]) = _
  rw [eqE, eqEs, eqEs, eqEs, eqE_arr, eqE_int]
  by_cases h : x.owner = y.owner <;> by_cases h2 : x.mark.l = y.mark.l <;> simp [h, h2, andO]
end Go.Proofs.Ytkjkbpgdpnapfaa

/-
  FUNCTIONS OF THE REFERENCE BY CONTRACT: SameMarks.
-/
namespace Go.Proofs.Ytkjkbpgdpnapfaa
open Go Go.Abs
open Go.Abs.Enc (enc)
def sameG (x y : Given) : Bool := decide (x.owner = y.owner) && decide (x.mark.l = y.mark.l)
def sameM (a b : Marks) : Bool := decide (a.wear.l = b.wear.l) && (decide (a.fls = b.fls) && (decide (a.given.length = b.given.length) && (List.range a.given.length).all fun i => sameG (gv a i) (gv b i)))
theorem F63 (a b : Marks) : Ctr Try.prog 63 [enc a, enc b] (enc (sameM a b)) := by
  refine Ctr.mk' Try.func63 ca63 cc63 cr63 (Nat.le_of_ble_eq_true rfl) (fun hwf W0 D0 E1 => ?_)
  simp only [c63, r63, idx, Nat.zero_add, Nat.reduceAdd]
  have hlen : a.given.length ≤ maxLen := ((wf_list a.given).1 hwf.1.2.2.1).1
  simp only [maxLen] at hlen
  refine AW.seq (AW.reg cd63_0 fun K hK => ?_)
  simp only [g63_0, bR, Nat.reduceEqDiff, reduceIte, Int.reduceBNe, Int.reduceBEq]
  refine .done (hK _ ?_); clear hK K; simp only [thenQ, blockQ]
  refine AW.seq (AW.seq ?_)
  refine AW.reg cd63_1 fun K hK => ?_
  simp only [g63_1, bR, Nat.reduceEqDiff, reduceIte, Int.reduceBNe, Int.reduceBEq]
  simp only [typR, useR, okR, eqE_arr, Option.map_some, reduceIte, bR, Nat.reduceEqDiff, reduceIte, Int.reduceBNe, Int.reduceBEq]
  generalize hw : decide (a.wear.l = b.wear.l) = bw
  cases bw
  · simp only [typR, useR, okR, bR, Nat.reduceEqDiff, reduceIte, Int.reduceBNe, Int.reduceBEq]
    refine .done (hK _ ?_); clear hK K; simp only [thenQ, blockQ]
    refine AW.ite ?_
    simp only [condQ, bR, Nat.reduceEqDiff, reduceIte, Int.reduceBNe, Int.reduceBEq]
    refine ⟨fun h => ?_, fun h => ?_⟩
    · refine AW.seq (AW.reg cd63_2 fun K hK => ?_)
      simp only [g63_2, bR, Nat.reduceEqDiff, reduceIte, Int.reduceBNe, Int.reduceBEq]
      refine .done (hK _ ?_); clear hK K; simp only [thenQ, blockQ]
      refine AW.ret ?_
      simp only [blockQ, thenQ, bR, Nat.reduceEqDiff, reduceIte, Int.reduceBNe, Int.reduceBEq]
      simp [sameM, hw]
    · cases h
  simp only [typR, useR, okR, bR, Nat.reduceEqDiff, reduceIte, Int.reduceBNe, Int.reduceBEq]
  generalize hf : (a.fls != b.fls) = bf
  cases bf
  case true =>
    simp only [typR, useR, okR, bR, Nat.reduceEqDiff, reduceIte, Int.reduceBNe, Int.reduceBEq]
    refine .done (hK _ ?_); clear hK K; simp only [thenQ, blockQ]
    refine AW.ite ?_
    simp only [condQ, bR, Nat.reduceEqDiff, reduceIte, Int.reduceBNe, Int.reduceBEq]
    refine ⟨fun h => ?_, fun h => ?_⟩
    · refine AW.seq (AW.reg cd63_2 fun K hK => ?_)
      simp only [g63_2, bR, Nat.reduceEqDiff, reduceIte, Int.reduceBNe, Int.reduceBEq]
      refine .done (hK _ ?_); clear hK K; simp only [thenQ, blockQ]
      refine AW.ret ?_
      simp only [blockQ, thenQ, bR, Nat.reduceEqDiff, reduceIte, Int.reduceBNe, Int.reduceBEq]
      have : a.fls ≠ b.fls := by simpa using hf
      simp [sameM, this]
    · cases h
  have hf' : a.fls = b.fls := by simpa using hf
  simp only [typR, useR, okR, bR, Nat.reduceEqDiff, reduceIte, Int.reduceBNe, Int.reduceBEq]
  refine .done (hK _ ?_); clear hK K; simp only [thenQ, blockQ]
  refine AW.ite ?_
  simp only [condQ, bR, Nat.reduceEqDiff, reduceIte, Int.reduceBNe, Int.reduceBEq]
  refine ⟨fun h => ?_, fun h => ?_⟩
  · refine AW.seq (AW.reg cd63_2 fun K hK => ?_)
    simp only [g63_2, bR, Nat.reduceEqDiff, reduceIte, Int.reduceBNe, Int.reduceBEq]
    refine .done (hK _ ?_); clear hK K; simp only [thenQ, blockQ]
    refine AW.ret ?_
    simp only [blockQ, thenQ, bR, Nat.reduceEqDiff, reduceIte, Int.reduceBNe, Int.reduceBEq]
    have : a.given.length ≠ b.given.length := by simp at h; omega
    simp [sameM, this]
  have hl : a.given.length = b.given.length := by simp at h; omega
  refine AW.skip ?_; simp only [thenQ, blockQ, reduceIte, Nat.reduceEqDiff]
  refine AW.seq ?_
  refine AW.seq (AW.reg cd63_3 fun K hK => ?_)
  simp only [g63_3, bR, Nat.reduceEqDiff, reduceIte, Int.reduceBNe, Int.reduceBEq]
  refine .done (hK _ ?_); clear hK K; simp only [thenQ, blockQ]
  refine AW.block (AW.loop (fun i : Nat => mkA [(2, .ptr 2 []), (3, .ptr 3 []), (5, .int .i64 i)] [(2, .box (enc a)), (3, .box (enc b))]) (fun i => i ≤ a.given.length ∧ ∀ j, j < i → sameG (gv a j) (gv b j) = true) (fun i => a.given.length - i) 0 ⟨by omega, fun k h => by omega⟩ ?_ (fun i hi => ?_))
  · refine Sub.of_lists ?_ ?_ ?_ ?_ <;> simp [subT, subO, onlyT, onlyO, isIn, look_cons, lookO_cons, lookO_nil, AV.only, AV.onlys, AO.only, onlys_map, onlys_append, e_only, e_int, e_bool]
  refine AW.seq (AW.seq ?_)
  refine AW.reg cd63_4 fun K hK => ?_
  simp only [g63_4, bR, Nat.reduceEqDiff, reduceIte, Int.reduceBNe, Int.reduceBEq]
  simp only [typR, useR, okR, bR, Nat.reduceEqDiff, reduceIte, Int.reduceBNe, Int.reduceBEq]
  refine .done (hK _ ?_); clear hK K; simp only [thenQ, blockQ]
  refine AW.ite ?_
  simp only [condQ, bR, Nat.reduceEqDiff, reduceIte, Int.reduceBNe, Int.reduceBEq]
  refine ⟨fun h => ?_, fun h => ?_⟩
  · have hlt : i < a.given.length := by simpa using h
    have hlb : i < b.given.length := by omega
    refine AW.skip ?_; simp only [thenQ, blockQ, reduceIte, Nat.reduceEqDiff]
    refine AW.seq (AW.block ?_)
    refine AW.seq (AW.reg cd63_5 fun K hK => ?_)
    simp only [g63_5, bR, Nat.reduceEqDiff, reduceIte, Int.reduceBNe, Int.reduceBEq]
    simp only [typR, useR, okR, isE_gv hlt, isE_gv hlb, eqE_given, Option.map_some, reduceIte, bR, Nat.reduceEqDiff, reduceIte, Int.reduceBNe, Int.reduceBEq]
    refine .done (hK _ ?_); clear hK K; simp only [thenQ, blockQ]
    refine AW.ite ?_
    simp only [condQ, bR, Nat.reduceEqDiff, reduceIte, Int.reduceBNe, Int.reduceBEq]
    refine ⟨fun h => ?_, fun h => ?_⟩
    · refine AW.seq (AW.reg cd63_6 fun K hK => ?_)
      simp only [g63_6, bR, Nat.reduceEqDiff, reduceIte, Int.reduceBNe, Int.reduceBEq]
      refine .done (hK _ ?_); clear hK K; simp only [thenQ, blockQ]
      refine AW.ret ?_
      simp only [blockQ, thenQ, bR, Nat.reduceEqDiff, reduceIte, Int.reduceBNe, Int.reduceBEq]
      have hs : sameG (gv a i) (gv b i) = false := by
        have h' : (!sameG (gv a i) (gv b i)) = true := h
        simpa using h'
      have : (List.range a.given.length).all (fun i => sameG (gv a i) (gv b i)) = false := all_false i hlt hs
      simp only [sameM, this, Bool.and_false]
    have hs : sameG (gv a i) (gv b i) = true := by
      have h' : (!sameG (gv a i) (gv b i)) = false := h
      simpa using h'
    refine AW.skip ?_; simp only [thenQ, blockQ, reduceIte, Nat.reduceEqDiff]
    refine AW.reg cd63_7 fun K hK => ?_
    simp only [g63_7, bR, Nat.reduceEqDiff, reduceIte, Int.reduceBNe, Int.reduceBEq]
    refine .done (hK _ ?_); clear hK K; simp only [thenQ, blockQ]
    refine ⟨i + 1, ⟨by omega, fun k hk' => ?_⟩, by omega, ?_⟩
    · by_cases hki : k = i
      · rw [hki]; exact hs
      · exact hi.2 k (by omega)
    · rw [wrap_id _ (by omega) (by omega)]
      refine Sub.of_lists ?_ ?_ ?_ ?_ <;> simp [subT, subO, onlyT, onlyO, isIn, look_cons, lookO_cons, lookO_nil, AV.only, AV.onlys, AO.only, onlys_map, onlys_append, e_only, e_int, e_bool]
  · have hge : i = a.given.length := by simp at h; omega
    subst hge
    refine AW.exit ?_; simp only [thenQ, blockQ, reduceIte, Nat.reduceEqDiff]
    refine AW.seq (AW.reg cd63_8 fun K hK => ?_)
    simp only [g63_8, bR, Nat.reduceEqDiff, reduceIte, Int.reduceBNe, Int.reduceBEq]
    refine .done (hK _ ?_); clear hK K; simp only [thenQ, blockQ]
    refine AW.ret ?_
    simp only [blockQ, thenQ, bR, Nat.reduceEqDiff, reduceIte, Int.reduceBNe, Int.reduceBEq]
    have : (List.range a.given.length).all (fun i => sameG (gv a i) (gv b i)) = true := all_true hi.2
    simp only [sameM, this, hw, decide_eq_true hf', decide_eq_true hl, Bool.and_self]
end Go.Proofs.Ytkjkbpgdpnapfaa

/-
  FUNCTIONS OF THE PACKAGE mark BY CONTRACT: isMark, isReading, isWear, isOwner, CheckMark, CheckReading, CheckWear; IndexFunc and ContainsFunc over whole numbers.
-/
namespace Go.Proofs.Ytkjkbpgdpnapfaa
open Go Go.Abs
open Go.Abs.Enc (enc)
theorem F116 (n : Int) : Ctr Try.prog 116 [enc n] (enc (!inR 0 4 n)) := by
  refine Ctr.mk' Try.func116 ca116 cc116 cr116 (Nat.le_of_ble_eq_true rfl) (fun hwf W0 D0 E1 => ?_)
  simp only [c116, r116, idx, Nat.zero_add, Nat.reduceAdd]
  refine AW.seq (AW.reg cd116_0 fun K hK => ?_)
  simp only [g116_0, bR, Nat.reduceEqDiff, reduceIte, Int.reduceBNe, Int.reduceBEq]
  refine .done (hK _ ?_); clear hK K; simp only [thenQ, blockQ]
  refine AW.seq (AW.reg cd116_1 fun K hK => ?_)
  simp only [g116_1, bR, Nat.reduceEqDiff, reduceIte, Int.reduceBNe, Int.reduceBEq]
  refine .flat _ (F89 n 0 4) rfl ?_
  simp only [bR, Nat.reduceEqDiff, reduceIte, Int.reduceBNe, Int.reduceBEq]
  refine .done (hK _ ?_); clear hK K; simp only [thenQ, blockQ]
  refine AW.ret ?_
  simp only [blockQ, thenQ, bR, Nat.reduceEqDiff, reduceIte, Int.reduceBNe, Int.reduceBEq]
theorem F118 (n : Int) : Ctr Try.prog 118 [enc n] (enc (!inR 1 31 n)) := by
  refine Ctr.mk' Try.func118 ca118 cc118 cr118 (Nat.le_of_ble_eq_true rfl) (fun hwf W0 D0 E1 => ?_)
  simp only [c118, r118, idx, Nat.zero_add, Nat.reduceAdd]
  refine AW.seq (AW.reg cd118_0 fun K hK => ?_)
  simp only [g118_0, bR, Nat.reduceEqDiff, reduceIte, Int.reduceBNe, Int.reduceBEq]
  refine .done (hK _ ?_); clear hK K; simp only [thenQ, blockQ]
  refine AW.seq (AW.reg cd118_1 fun K hK => ?_)
  simp only [g118_1, bR, Nat.reduceEqDiff, reduceIte, Int.reduceBNe, Int.reduceBEq]
  generalize hz : (n == 0) = z
  cases z
  · simp only [bR, Nat.reduceEqDiff, reduceIte, Int.reduceBNe, Int.reduceBEq]
    refine .flat _ (F117 n) rfl ?_
    simp only [bR, Nat.reduceEqDiff, reduceIte, Int.reduceBNe, Int.reduceBEq]
    refine .done (hK _ ?_); clear hK K; simp only [thenQ, blockQ]
    refine AW.ret ?_
    simp only [blockQ, thenQ, bR, Nat.reduceEqDiff, reduceIte, Int.reduceBNe, Int.reduceBEq]
    simp at hz
    have e : (0 ≤ n) ↔ (1 ≤ n) := by omega
    simp [inR, e]
  · simp only [bR, Nat.reduceEqDiff, reduceIte, Int.reduceBNe, Int.reduceBEq]
    refine .done (hK _ ?_); clear hK K; simp only [thenQ, blockQ]
    refine AW.ret ?_
    simp only [blockQ, thenQ, bR, Nat.reduceEqDiff, reduceIte, Int.reduceBNe, Int.reduceBEq]
    simp at hz
    simp [inR, hz]
def idxI (p : Int → Bool) (l : List Int) : Int := match l.findIdx? p with
  | some i => i
  | none => -1
theorem findIdx?_none_take {α : Type} {p : α → Bool} {l : List α} (h : ∀ x ∈ l, p x = false) : l.findIdx? p = none := by
  rw [List.findIdx?_eq_none_iff]; exact h
theorem findIdx?_some_at {α : Type} {p : α → Bool} {l : List α} {i : Nat} (hi : i < l.length) (h : ∀ x ∈ l.take i, p x = false) (hp : p l[i] = true) : l.findIdx? p = some i := by
  rw [List.findIdx?_eq_some_iff_getElem]
  refine ⟨hi, hp, fun j hj => ?_⟩
  have : l[j] ∈ l.take i := by
    rw [List.mem_take_iff_getElem]
    exact ⟨j, by omega, rfl⟩
  simp [h _ this]
theorem F109 (l : List Int) (f : FuncId) (caps : List AV) (hcaps : AV.dones caps = true) (p : Int → Bool) (hf : ∀ x ∈ l, Ctr Try.prog f (enc x :: caps) (enc (p x))) : Ctr Try.prog 109 [enc l, .func f caps] (enc (idxI p l)) := by
  refine Ctr.mk' Try.func109 ca109 cc109 cr109 (Nat.le_of_ble_eq_true rfl) (fun hwf W0 D0 E1 => ?_)
  simp only [c109, r109, idx, Nat.zero_add, Nat.reduceAdd]
  have hlen : l.length ≤ maxLen := ((wf_list l).1 hwf.1).1
  simp only [maxLen] at hlen
  have hcl : AV.closeds caps = true := dones_closed caps hcaps
  have hfc : ∀ bx A, fins bx A caps = some caps := fun bx A => fins_dones bx A caps hcaps
  have hon : ∀ q, AV.onlys q caps = true := fun q => onlys_closed q caps hcl
  refine AW.seq (AW.reg cd109_0 fun K hK => ?_)
  simp only [g109_0, bR, Nat.reduceEqDiff, reduceIte, Int.reduceBNe, Int.reduceBEq]
  refine .done (hK _ ?_); clear hK K; simp only [thenQ, blockQ]
  refine AW.seq ?_
  refine AW.seq (AW.reg cd109_1 fun K hK => ?_)
  simp only [g109_1, useR, bR, Nat.reduceEqDiff, reduceIte, Int.reduceBNe, Int.reduceBEq]
  refine .done (hK _ ?_); clear hK K; simp only [thenQ, blockQ]
  refine AW.block (AW.loop (fun i : Nat => mkA [(0, enc l), (1, .func f caps), (7, .int .i64 l.length), (8, .int .i64 i)] []) (fun i => i ≤ l.length ∧ ∀ x ∈ l.take i, p x = false) (fun i => l.length - i) 0 ⟨Nat.zero_le _, by simp⟩ ?_ (fun i hi => ?_))
  · refine Sub.of_lists ?_ ?_ ?_ ?_ <;> simp [subT, subO, onlyT, onlyO, isIn, look_cons, lookO_cons, lookO_nil, AV.only, AV.onlys, AO.only, onlys_map, onlys_append, e_only, e_int, e_bool, hon]
  · refine AW.seq (AW.reg cd109_2 fun K hK => ?_)
    simp only [g109_2, bR, Nat.reduceEqDiff, reduceIte, Int.reduceBNe, Int.reduceBEq]
    refine .done (hK _ ?_); clear hK K; simp only [thenQ, blockQ]
    refine AW.seq ?_
    refine AW.ite ?_
    simp only [condQ, bR, Nat.reduceEqDiff, reduceIte, Int.reduceBNe, Int.reduceBEq]
    refine ⟨fun h => ?_, fun h => ?_⟩
    · have hlt : i < l.length := by simpa using h
      refine AW.skip ?_; simp only [thenQ, blockQ, reduceIte, Nat.reduceEqDiff]
      refine AW.seq (AW.block ?_)
      refine AW.seq (AW.reg cd109_3 fun K hK => ?_)
      simp only [g109_3, bR, Nat.reduceEqDiff, reduceIte, Int.reduceBNe, Int.reduceBEq]
      refine .done (hK _ ?_); clear hK K; simp only [thenQ, blockQ]
      refine AW.seq (AW.reg cd109_4 fun K hK => ?_)
      simp only [g109_4, bR, Nat.reduceEqDiff, reduceIte, Int.reduceBNe, Int.reduceBEq]
      simp only [isE_nat 1 hlt rfl, okR, List.cons_append, hfc, bR, Nat.reduceEqDiff, reduceIte, Int.reduceBNe, Int.reduceBEq]
      refine .flat _ (hf _ (List.getElem_mem hlt)) rfl ?_
      simp only [bR, Nat.reduceEqDiff, reduceIte, Int.reduceBNe, Int.reduceBEq]
      refine .done (hK _ ?_); clear hK K; simp only [thenQ, blockQ]
      refine AW.ite ?_
      simp only [condQ, bR, Nat.reduceEqDiff, reduceIte, Int.reduceBNe, Int.reduceBEq]
      refine ⟨fun h => ?_, fun h => ?_⟩
      · refine AW.seq (AW.reg cd109_5 fun K hK => ?_)
        simp only [g109_5, bR, Nat.reduceEqDiff, reduceIte, Int.reduceBNe, Int.reduceBEq]
        refine .done (hK _ ?_); clear hK K; simp only [thenQ, blockQ]
        refine AW.ret ?_
        simp only [blockQ, thenQ, bR, Nat.reduceEqDiff, reduceIte, Int.reduceBNe, Int.reduceBEq]
        simp [idxI, findIdx?_some_at hlt hi.2 h]
      · refine AW.skip ?_; simp only [thenQ, blockQ, reduceIte, Nat.reduceEqDiff]
        refine AW.reg cd109_6 fun K hK => ?_
        simp only [g109_6, bR, Nat.reduceEqDiff, reduceIte, Int.reduceBNe, Int.reduceBEq]
        refine .done (hK _ ?_); clear hK K; simp only [thenQ, blockQ]
        refine ⟨i + 1, ⟨by omega, fun x hm => ?_⟩, by omega, ?_⟩
        · rw [List.take_succ_eq_append_getElem hlt] at hm
          rcases List.mem_append.1 hm with hm | hm
          · exact hi.2 x hm
          · simp at hm; rw [hm]; exact h
        · rw [wrap_id _ (by omega) (by omega)]
          refine Sub.of_lists ?_ ?_ ?_ ?_ <;> simp [subT, subO, onlyT, onlyO, isIn, look_cons, lookO_cons, lookO_nil, AV.only, AV.onlys, AO.only, onlys_map, onlys_append, e_only, e_int, e_bool, hon]
    · have hge : i = l.length := by simp at h; omega
      refine AW.exit ?_; simp only [thenQ, blockQ, reduceIte, Nat.reduceEqDiff]
      refine AW.seq (AW.reg cd109_7 fun K hK => ?_)
      simp only [g109_7, bR, Nat.reduceEqDiff, reduceIte, Int.reduceBNe, Int.reduceBEq]
      refine .done (hK _ ?_); clear hK K; simp only [thenQ, blockQ]
      refine AW.ret ?_
      simp only [blockQ, thenQ, bR, Nat.reduceEqDiff, reduceIte, Int.reduceBNe, Int.reduceBEq]
      simp [hge] at hi
      simp [idxI, findIdx?_none_take hi]
theorem idxI_any (p : Int → Bool) (l : List Int) : decide (0 ≤ idxI p l) = l.any p := by
  unfold idxI
  cases h : l.findIdx? p with
  | none =>
    rw [List.findIdx?_eq_none_iff] at h
    have : l.any p = false := by rw [List.any_eq_false]; intro x hx; simp [h x hx]
    simp [this]
  | some i =>
    rw [List.findIdx?_eq_some_iff_getElem] at h
    obtain ⟨h1, h2, _⟩ := h
    have : l.any p = true := by rw [List.any_eq_true]; exact ⟨_, List.getElem_mem h1, h2⟩
    rw [this]
    exact decide_eq_true (Int.natCast_nonneg i)
theorem F75 (l : List Int) (f : FuncId) (caps : List AV) (hcaps : AV.dones caps = true) (p : Int → Bool) (hf : ∀ x ∈ l, Ctr Try.prog f (enc x :: caps) (enc (p x))) : Ctr Try.prog 75 [enc l, .func f caps] (enc (l.any p)) := by
  refine Ctr.mk' Try.func75 ca75 cc75 cr75 (Nat.le_of_ble_eq_true rfl) (fun hwf W0 D0 E1 => ?_)
  simp only [c75, r75, idx, Nat.zero_add, Nat.reduceAdd]
  have hcl : AV.closeds caps = true := dones_closed caps hcaps
  have hfc : ∀ bx A, fins bx A caps = some caps := fun bx A => fins_dones bx A caps hcaps
  refine AW.seq (AW.reg cd75_0 fun K hK => ?_)
  simp only [g75_0, bR, Nat.reduceEqDiff, reduceIte, Int.reduceBNe, Int.reduceBEq]
  refine .done (hK _ ?_); clear hK K; simp only [thenQ, blockQ]
  refine AW.seq (AW.reg cd75_1 fun K hK => ?_)
  simp only [g75_1, bR, Nat.reduceEqDiff, reduceIte, Int.reduceBNe, Int.reduceBEq]
  simp only [e_fin, hfc, bR, Nat.reduceEqDiff, reduceIte, Int.reduceBNe, Int.reduceBEq]
  refine .flat _ (F109 l f caps hcaps p hf) rfl ?_
  simp only [bR, Nat.reduceEqDiff, reduceIte, Int.reduceBNe, Int.reduceBEq]
  refine .done (hK _ ?_); clear hK K; simp only [thenQ, blockQ]
  refine AW.ret ?_
  simp only [blockQ, thenQ, bR, Nat.reduceEqDiff, reduceIte, Int.reduceBNe, Int.reduceBEq]
  rw [idxI_any]
theorem finV_enc {α : Type} [Enc α] {n sz : Nat} (x : Arr n α) (hs : Enc.sz α = sz) : finV sz 0 n (some (x.l.map enc)) = some (enc x.l) := by
  have h : ((x.l.map (enc (α := α))).drop 0).take n = x.l.map enc := by
    rw [List.drop_zero, List.take_of_length_le]; simp [x.h]
  simp only [finV, h]
  rw [if_pos (closeds_map x.l), e_list, hs]
theorem vaF_enc {α : Type} [Enc α] {n sz : Nat} (x : Arr n α) (hs : Enc.sz α = sz) (h1 : n ≤ maxLen) (h0 : n ≠ 0) (y : AV) : vaF n sz (x.l.map enc) y = some y := by
  simp only [vaF]; rw [if_pos ⟨evenly_map n sz x.l x.h hs, h1, h0⟩]
theorem all_g (p : Int → Bool) (x : Arr 6 Int) : x.l.any (fun v => !p v) = !(List.range 6).all (fun i => p (x.g i)) := by
  have h : (List.range 6).all (fun i => p (x.g i)) = x.l.all p := by
    rw [Bool.eq_iff_iff]
    simp only [List.all_eq_true, List.mem_range]
    constructor
    · intro h v hv
      obtain ⟨i, hi, rfl⟩ := List.getElem_of_mem hv
      have := h i (by rw [x.h] at hi; exact hi)
      rwa [← x.g_eq (by rw [x.h] at hi; exact hi)] at this
    · intro h i hi
      rw [← x.g_eq hi]
      exact h _ (List.getElem_mem _)
  rw [h, List.not_all_eq_any_not]
theorem F93 (m : Arr 6 Int) : Ctr Try.prog 93 [enc m] (enc (okMark m)) := by
  refine Ctr.mk' Try.func93 ca93 cc93 cr93 (Nat.le_of_ble_eq_true rfl) (fun hwf W0 D0 E1 => ?_)
  simp only [c93, r93, idx, Nat.zero_add, Nat.reduceAdd]
  refine AW.seq (AW.reg cd93_0 fun K hK => ?_)
  simp only [g93_0, bR, Nat.reduceEqDiff, reduceIte, Int.reduceBNe, Int.reduceBEq]
  refine .done (hK _ ?_); clear hK K; simp only [thenQ, blockQ]
  refine AW.seq (AW.reg cd93_1 fun K hK => ?_)
  simp only [g93_1, bR, Nat.reduceEqDiff, reduceIte, Int.reduceBNe, Int.reduceBEq]
  simp only [useR, vaF_enc (sz := 1) m rfl (Nat.le_of_ble_eq_true rfl) (Nat.succ_ne_zero 5), finV_enc (sz := 1) m rfl, bR, Nat.reduceEqDiff, reduceIte, Int.reduceBNe, Int.reduceBEq]
  refine .flat _ (F75 m.l 116 [] rfl (fun n => !inR 0 4 n) (fun x _ => F116 x)) rfl ?_
  simp only [bR, Nat.reduceEqDiff, reduceIte, Int.reduceBNe, Int.reduceBEq]
  refine .done (hK _ ?_); clear hK K; simp only [thenQ, blockQ]
  refine AW.ret ?_
  simp only [blockQ, thenQ, bR, Nat.reduceEqDiff, reduceIte, Int.reduceBNe, Int.reduceBEq]
  rw [all_g (inR 0 4)]; simp [okMark]
theorem F96 (m : Arr 6 Int) : Ctr Try.prog 96 [enc m] (enc (okReading m)) := by
  refine Ctr.mk' Try.func96 ca96 cc96 cr96 (Nat.le_of_ble_eq_true rfl) (fun hwf W0 D0 E1 => ?_)
  simp only [c96, r96, idx, Nat.zero_add, Nat.reduceAdd]
  refine AW.seq (AW.reg cd96_0 fun K hK => ?_)
  simp only [g96_0, bR, Nat.reduceEqDiff, reduceIte, Int.reduceBNe, Int.reduceBEq]
  refine .done (hK _ ?_); clear hK K; simp only [thenQ, blockQ]
  refine AW.seq (AW.reg cd96_1 fun K hK => ?_)
  simp only [g96_1, bR, Nat.reduceEqDiff, reduceIte, Int.reduceBNe, Int.reduceBEq]
  simp only [useR, vaF_enc (sz := 1) m rfl (Nat.le_of_ble_eq_true rfl) (Nat.succ_ne_zero 5), finV_enc (sz := 1) m rfl, bR, Nat.reduceEqDiff, reduceIte, Int.reduceBNe, Int.reduceBEq]
  refine .flat _ (F75 m.l 118 [] rfl (fun n => !inR 1 31 n) (fun x _ => F118 x)) rfl ?_
  simp only [bR, Nat.reduceEqDiff, reduceIte, Int.reduceBNe, Int.reduceBEq]
  refine .done (hK _ ?_); clear hK K; simp only [thenQ, blockQ]
  refine AW.ret ?_
  simp only [blockQ, thenQ, bR, Nat.reduceEqDiff, reduceIte, Int.reduceBNe, Int.reduceBEq]
  rw [all_g (inR 1 31)]; simp [okReading]
theorem F97 (n : Int) : Ctr Try.prog 97 [enc n] (enc (inR 1 99 n)) := by
  refine Ctr.mk' Try.func97 ca97 cc97 cr97 (Nat.le_of_ble_eq_true rfl) (fun hwf W0 D0 E1 => ?_)
  simp only [c97, r97, idx, Nat.zero_add, Nat.reduceAdd]
  refine AW.seq (AW.reg cd97_0 fun K hK => ?_)
  simp only [g97_0, bR, Nat.reduceEqDiff, reduceIte, Int.reduceBNe, Int.reduceBEq]
  refine .done (hK _ ?_); clear hK K; simp only [thenQ, blockQ]
  refine AW.seq (AW.reg cd97_1 fun K hK => ?_)
  simp only [g97_1, bR, Nat.reduceEqDiff, reduceIte, Int.reduceBNe, Int.reduceBEq]
  refine .flat _ (F89 n 1 99) rfl ?_
  simp only [bR, Nat.reduceEqDiff, reduceIte, Int.reduceBNe, Int.reduceBEq]
  refine .done (hK _ ?_); clear hK K; simp only [thenQ, blockQ]
  refine AW.ret ?_
  simp only [blockQ, thenQ, bR, Nat.reduceEqDiff, reduceIte, Int.reduceBNe, Int.reduceBEq]
theorem F41 (m : Arr 6 Int) : Ctr Try.prog 41 [enc m] (enc (if okMark m then (0 : Int) else 10)) := by
  refine Ctr.mk' Try.func41 ca41 cc41 cr41 (Nat.le_of_ble_eq_true rfl) (fun hwf W0 D0 E1 => ?_)
  simp only [c41, r41, idx, Nat.zero_add, Nat.reduceAdd]
  refine AW.seq (AW.reg cd41_0 fun K hK => ?_)
  simp only [g41_0, bR, Nat.reduceEqDiff, reduceIte, Int.reduceBNe, Int.reduceBEq]
  refine .done (hK _ ?_); clear hK K; simp only [thenQ, blockQ]
  refine AW.seq (AW.seq ?_)
  refine AW.reg cd41_1 fun K hK => ?_
  simp only [g41_1, bR, Nat.reduceEqDiff, reduceIte, Int.reduceBNe, Int.reduceBEq]
  simp only [typR, useR, okR, e_fin, bR, Nat.reduceEqDiff, reduceIte, Int.reduceBNe, Int.reduceBEq]
  refine .flat _ (F93 m) rfl ?_
  generalize hm : okMark m = b
  cases b
  · simp only [bR, Nat.reduceEqDiff, reduceIte, Int.reduceBNe, Int.reduceBEq]
    refine .done (hK _ ?_); clear hK K; simp only [thenQ, blockQ]
    refine AW.ite ?_
    simp only [condQ, bR, Nat.reduceEqDiff, reduceIte, Int.reduceBNe, Int.reduceBEq]
    refine ⟨fun h => ?_, fun h => ?_⟩
    · refine AW.seq (AW.reg cd41_2 fun K hK => ?_)
      simp only [g41_2, bR, Nat.reduceEqDiff, reduceIte, Int.reduceBNe, Int.reduceBEq]
      refine .done (hK _ ?_); clear hK K; simp only [thenQ, blockQ]
      refine AW.ret ?_
      simp only [blockQ, thenQ, bR, Nat.reduceEqDiff, reduceIte, Int.reduceBNe, Int.reduceBEq]
      simp [hm]
    · cases h
  · simp only [bR, Nat.reduceEqDiff, reduceIte, Int.reduceBNe, Int.reduceBEq]
    refine .done (hK _ ?_); clear hK K; simp only [thenQ, blockQ]
    refine AW.ite ?_
    simp only [condQ, bR, Nat.reduceEqDiff, reduceIte, Int.reduceBNe, Int.reduceBEq]
    refine ⟨fun h => ?_, fun h => ?_⟩
    · cases h
    · refine AW.skip ?_; simp only [thenQ, blockQ, reduceIte, Nat.reduceEqDiff]
      refine AW.seq (AW.reg cd41_3 fun K hK => ?_)
      simp only [g41_3, bR, Nat.reduceEqDiff, reduceIte, Int.reduceBNe, Int.reduceBEq]
      refine .done (hK _ ?_); clear hK K; simp only [thenQ, blockQ]
      refine AW.ret ?_
      simp only [blockQ, thenQ, bR, Nat.reduceEqDiff, reduceIte, Int.reduceBNe, Int.reduceBEq]
      simp [hm]
theorem F45 (m : Arr 6 Int) : Ctr Try.prog 45 [enc m] (enc (if okReading m then (0 : Int) else 12)) := by
  refine Ctr.mk' Try.func45 ca45 cc45 cr45 (Nat.le_of_ble_eq_true rfl) (fun hwf W0 D0 E1 => ?_)
  simp only [c45, r45, idx, Nat.zero_add, Nat.reduceAdd]
  refine AW.seq (AW.reg cd45_0 fun K hK => ?_)
  simp only [g45_0, bR, Nat.reduceEqDiff, reduceIte, Int.reduceBNe, Int.reduceBEq]
  refine .done (hK _ ?_); clear hK K; simp only [thenQ, blockQ]
  refine AW.seq (AW.seq ?_)
  refine AW.reg cd45_1 fun K hK => ?_
  simp only [g45_1, bR, Nat.reduceEqDiff, reduceIte, Int.reduceBNe, Int.reduceBEq]
  simp only [typR, useR, okR, e_fin, bR, Nat.reduceEqDiff, reduceIte, Int.reduceBNe, Int.reduceBEq]
  refine .flat _ (F96 m) rfl ?_
  generalize hm : okReading m = b
  cases b
  · simp only [bR, Nat.reduceEqDiff, reduceIte, Int.reduceBNe, Int.reduceBEq]
    refine .done (hK _ ?_); clear hK K; simp only [thenQ, blockQ]
    refine AW.ite ?_
    simp only [condQ, bR, Nat.reduceEqDiff, reduceIte, Int.reduceBNe, Int.reduceBEq]
    refine ⟨fun h => ?_, fun h => ?_⟩
    · refine AW.seq (AW.reg cd45_2 fun K hK => ?_)
      simp only [g45_2, bR, Nat.reduceEqDiff, reduceIte, Int.reduceBNe, Int.reduceBEq]
      refine .done (hK _ ?_); clear hK K; simp only [thenQ, blockQ]
      refine AW.ret ?_
      simp only [blockQ, thenQ, bR, Nat.reduceEqDiff, reduceIte, Int.reduceBNe, Int.reduceBEq]
      simp [hm]
    · cases h
  · simp only [bR, Nat.reduceEqDiff, reduceIte, Int.reduceBNe, Int.reduceBEq]
    refine .done (hK _ ?_); clear hK K; simp only [thenQ, blockQ]
    refine AW.ite ?_
    simp only [condQ, bR, Nat.reduceEqDiff, reduceIte, Int.reduceBNe, Int.reduceBEq]
    refine ⟨fun h => ?_, fun h => ?_⟩
    · cases h
    · refine AW.skip ?_; simp only [thenQ, blockQ, reduceIte, Nat.reduceEqDiff]
      refine AW.seq (AW.reg cd45_3 fun K hK => ?_)
      simp only [g45_3, bR, Nat.reduceEqDiff, reduceIte, Int.reduceBNe, Int.reduceBEq]
      refine .done (hK _ ?_); clear hK K; simp only [thenQ, blockQ]
      refine AW.ret ?_
      simp only [blockQ, thenQ, bR, Nat.reduceEqDiff, reduceIte, Int.reduceBNe, Int.reduceBEq]
      simp [hm]
end Go.Proofs.Ytkjkbpgdpnapfaa

/-
  FUNCTIONS OF THE PACKAGE mark BY CONTRACT: has, isWear, CheckWear, differ.
-/
namespace Go.Proofs.Ytkjkbpgdpnapfaa
open Go Go.Abs
open Go.Abs.Enc (enc)
def hasB (s : Int) (k : Nat) : Bool := band (s.fdiv (2 ^ min k IntKind.i64.bits)) 1 == 1
theorem F110 (s : Int) (k : Nat) : Ctr Try.prog 110 [enc s, enc (k : Int)] (enc (hasB s k)) := by
  refine Ctr.mk' Try.func110 ca110 cc110 cr110 (Nat.le_of_ble_eq_true rfl) (fun hwf W0 D0 E1 => ?_)
  simp only [c110, r110, idx, Nat.zero_add, Nat.reduceAdd]
  refine AW.seq (AW.reg cd110_0 fun K hK => ?_)
  simp only [g110_0, bR, Nat.reduceEqDiff, reduceIte, Int.reduceBNe, Int.reduceBEq]
  refine .done (hK _ ?_); clear hK K; simp only [thenQ, blockQ]
  refine AW.seq (AW.reg cd110_1 fun K hK => ?_)
  simp only [g110_1, bR, Nat.reduceEqDiff, reduceIte, Int.reduceBNe, Int.reduceBEq]
  refine .done (hK _ ?_); clear hK K; simp only [thenQ, blockQ]
  refine AW.ret ?_
  simp only [blockQ, thenQ, bR, Nat.reduceEqDiff, reduceIte, Int.reduceBNe, Int.reduceBEq]
  rfl
theorem has_bit (s : Int) (h0 : 0 ≤ s) (h1 : s ≤ 31) (k : Nat) (hk : k < 5) : hasB s k = bit s k := by
  have key : ∀ s : Fin 32, ∀ k : Fin 5, hasB (s.1 : Int) k.1 = bit (s.1 : Int) k.1 := by decide +kernel
  have := key ⟨s.toNat, by omega⟩ ⟨k, hk⟩
  simpa [Int.toNat_of_nonneg h0] using this
theorem F95 (m : Arr 5 Int) : Ctr Try.prog 95 [enc m] (enc (okWear m)) := by
  refine Ctr.mk' Try.func95 ca95 cc95 cr95 (Nat.le_of_ble_eq_true rfl) (fun hwf W0 D0 E1 => ?_)
  simp only [c95, r95, idx, Nat.zero_add, Nat.reduceAdd]
  refine AW.seq (AW.reg cd95_0 fun K hK => ?_)
  simp only [g95_0, bR, Nat.reduceEqDiff, reduceIte, Int.reduceBNe, Int.reduceBEq]
  refine .done (hK _ ?_); clear hK K; simp only [thenQ, blockQ]
  refine AW.seq ?_
  refine AW.seq (AW.reg cd95_1 fun K hK => ?_)
  simp only [g95_1, typR, useR, okR, bR, Nat.reduceEqDiff, reduceIte, Int.reduceBNe, Int.reduceBEq]
  refine .done (hK _ ?_); clear hK K; simp only [thenQ, blockQ]
  refine AW.block (AW.loop (fun i : Nat => mkA [(2, .bool false), (6, enc m), (7, .int .i64 i)] []) (fun j => j ≤ 5 ∧ ∀ i, i < j → (inR 0 31 (m.g i) && bit (m.g i) i) = true) (fun i => 5 - i) 0 ⟨by omega, fun k h => by omega⟩ ?_ (fun i hi => ?_))
  · refine Sub.of_lists ?_ ?_ ?_ ?_ <;> simp [subT, subO, onlyT, onlyO, isIn, look_cons, lookO_cons, lookO_nil, AV.only, AV.onlys, AO.only, onlys_map, onlys_append, e_only, e_int, e_bool]
  · refine AW.seq (AW.reg cd95_2 fun K hK => ?_)
    simp only [g95_2, bR, Nat.reduceEqDiff, reduceIte, Int.reduceBNe, Int.reduceBEq]
    refine .done (hK _ ?_); clear hK K; simp only [thenQ, blockQ]
    refine AW.seq ?_
    refine AW.ite ?_
    simp only [condQ, bR, Nat.reduceEqDiff, reduceIte, Int.reduceBNe, Int.reduceBEq]
    refine ⟨fun h => ?_, fun h => ?_⟩
    · have hlt : i < 5 := by simp at h; omega
      refine AW.skip ?_; simp only [thenQ, blockQ, reduceIte, Nat.reduceEqDiff]
      refine AW.seq (AW.block ?_)
      refine AW.seq (AW.reg cd95_3 fun K hK => ?_)
      simp only [g95_3, bR, Nat.reduceEqDiff, reduceIte, Int.reduceBNe, Int.reduceBEq]
      simp only [ixI, ixE, useR, inB_nat 1 m hlt rfl, get_g m hlt, okR, bR, Nat.reduceEqDiff, reduceIte, Int.reduceBNe, Int.reduceBEq]
      refine .done (hK _ ?_); clear hK K; simp only [thenQ, blockQ]
      refine AW.seq (AW.reg cd95_4 fun K hK => ?_)
      simp only [g95_4, bR, Nat.reduceEqDiff, reduceIte, Int.reduceBNe, Int.reduceBEq]
      refine .done (hK _ ?_); clear hK K; simp only [thenQ, blockQ]
      refine AW.seq (AW.reg cd95_5 fun K hK => ?_)
      simp only [g95_5, bR, Nat.reduceEqDiff, reduceIte, Int.reduceBNe, Int.reduceBEq]
      refine .flat _ (F117 _) rfl ?_
      generalize hb : inR 0 31 (m.g i) = b
      cases b
      · simp only [bR, Nat.reduceEqDiff, reduceIte, Int.reduceBNe, Int.reduceBEq]
        refine .done (hK _ ?_); clear hK K; simp only [thenQ, blockQ]
        refine AW.ite ?_
        simp only [condQ, bR, Nat.reduceEqDiff, reduceIte, Int.reduceBNe, Int.reduceBEq]
        refine ⟨fun h => ?_, fun h => ?_⟩
        · refine AW.seq (AW.reg cd95_6 fun K hK => ?_)
          simp only [g95_6, bR, Nat.reduceEqDiff, reduceIte, Int.reduceBNe, Int.reduceBEq]
          refine .done (hK _ ?_); clear hK K; simp only [thenQ, blockQ]
          refine AW.ret ?_
          simp only [blockQ, thenQ, bR, Nat.reduceEqDiff, reduceIte, Int.reduceBNe, Int.reduceBEq]
          rw [okWear, all_false i hlt]
          simp [hb]
        · cases h
      · have hr : 0 ≤ m.g i ∧ m.g i ≤ 31 := by simpa [inR] using hb
        simp only [bR, Nat.reduceEqDiff, reduceIte, Int.reduceBNe, Int.reduceBEq]
        refine .flat _ (F110 (m.g i) i) rfl ?_
        rw [has_bit _ hr.1 hr.2 i hlt]
        simp only [bR, Nat.reduceEqDiff, reduceIte, Int.reduceBNe, Int.reduceBEq]
        refine .done (hK _ ?_); clear hK K; simp only [thenQ, blockQ]
        refine AW.ite ?_
        simp only [condQ, bR, Nat.reduceEqDiff, reduceIte, Int.reduceBNe, Int.reduceBEq]
        refine ⟨fun h => ?_, fun h => ?_⟩
        · refine AW.seq (AW.reg cd95_6 fun K hK => ?_)
          simp only [g95_6, bR, Nat.reduceEqDiff, reduceIte, Int.reduceBNe, Int.reduceBEq]
          refine .done (hK _ ?_); clear hK K; simp only [thenQ, blockQ]
          refine AW.ret ?_
          simp only [blockQ, thenQ, bR, Nat.reduceEqDiff, reduceIte, Int.reduceBNe, Int.reduceBEq]
          rw [okWear, all_false i hlt]
          simp at h
          simp [h]
        · refine AW.skip ?_; simp only [thenQ, blockQ, reduceIte, Nat.reduceEqDiff]
          refine AW.reg cd95_7 fun K hK => ?_
          simp only [g95_7, bR, Nat.reduceEqDiff, reduceIte, Int.reduceBNe, Int.reduceBEq]
          refine .done (hK _ ?_); clear hK K; simp only [thenQ, blockQ]
          refine ⟨i + 1, ⟨by omega, fun k hk => ?_⟩, by omega, ?_⟩
          · by_cases hk' : k = i
            · subst hk'
              simp at h
              simp [hb, h]
            · exact hi.2 k (by omega)
          · rw [wrap_id _ (by omega) (by omega)]
            refine Sub.of_lists ?_ ?_ ?_ ?_ <;> simp [subT, subO, onlyT, onlyO, isIn, look_cons, lookO_cons, lookO_nil, AV.only, AV.onlys, AO.only, onlys_map, onlys_append, e_only, e_int, e_bool]
    · have hge : i = 5 := by simp at h; omega
      subst hge
      refine AW.exit ?_; simp only [thenQ, blockQ, reduceIte, Nat.reduceEqDiff]
      refine AW.seq (AW.reg cd95_8 fun K hK => ?_)
      simp only [g95_8, bR, Nat.reduceEqDiff, reduceIte, Int.reduceBNe, Int.reduceBEq]
      refine .done (hK _ ?_); clear hK K; simp only [thenQ, blockQ]
      refine AW.ret ?_
      simp only [blockQ, thenQ, bR, Nat.reduceEqDiff, reduceIte, Int.reduceBNe, Int.reduceBEq]
      rw [okWear, all_true hi.2]
theorem F43 (m : Arr 5 Int) : Ctr Try.prog 43 [enc m] (enc (if okWear m then (0 : Int) else 11)) := by
  refine Ctr.mk' Try.func43 ca43 cc43 cr43 (Nat.le_of_ble_eq_true rfl) (fun hwf W0 D0 E1 => ?_)
  simp only [c43, r43, idx, Nat.zero_add, Nat.reduceAdd]
  refine AW.seq (AW.reg cd43_0 fun K hK => ?_)
  simp only [g43_0, bR, Nat.reduceEqDiff, reduceIte, Int.reduceBNe, Int.reduceBEq]
  refine .done (hK _ ?_); clear hK K; simp only [thenQ, blockQ]
  refine AW.seq (AW.seq ?_)
  refine AW.reg cd43_1 fun K hK => ?_
  simp only [g43_1, bR, Nat.reduceEqDiff, reduceIte, Int.reduceBNe, Int.reduceBEq]
  simp only [typR, useR, okR, e_fin, bR, Nat.reduceEqDiff, reduceIte, Int.reduceBNe, Int.reduceBEq]
  refine .flat _ (F95 m) rfl ?_
  generalize hm : okWear m = b
  cases b
  · simp only [bR, Nat.reduceEqDiff, reduceIte, Int.reduceBNe, Int.reduceBEq]
    refine .done (hK _ ?_); clear hK K; simp only [thenQ, blockQ]
    refine AW.ite ?_
    simp only [condQ, bR, Nat.reduceEqDiff, reduceIte, Int.reduceBNe, Int.reduceBEq]
    refine ⟨fun h => ?_, fun h => ?_⟩
    · refine AW.seq (AW.reg cd43_2 fun K hK => ?_)
      simp only [g43_2, bR, Nat.reduceEqDiff, reduceIte, Int.reduceBNe, Int.reduceBEq]
      refine .done (hK _ ?_); clear hK K; simp only [thenQ, blockQ]
      refine AW.ret ?_
      simp only [blockQ, thenQ, bR, Nat.reduceEqDiff, reduceIte, Int.reduceBNe, Int.reduceBEq]
      simp [hm]
    · cases h
  · simp only [bR, Nat.reduceEqDiff, reduceIte, Int.reduceBNe, Int.reduceBEq]
    refine .done (hK _ ?_); clear hK K; simp only [thenQ, blockQ]
    refine AW.ite ?_
    simp only [condQ, bR, Nat.reduceEqDiff, reduceIte, Int.reduceBNe, Int.reduceBEq]
    refine ⟨fun h => ?_, fun h => ?_⟩
    · cases h
    · refine AW.skip ?_; simp only [thenQ, blockQ, reduceIte, Nat.reduceEqDiff]
      refine AW.seq (AW.reg cd43_3 fun K hK => ?_)
      simp only [g43_3, bR, Nat.reduceEqDiff, reduceIte, Int.reduceBNe, Int.reduceBEq]
      refine .done (hK _ ?_); clear hK K; simp only [thenQ, blockQ]
      refine AW.ret ?_
      simp only [blockQ, thenQ, bR, Nat.reduceEqDiff, reduceIte, Int.reduceBNe, Int.reduceBEq]
      simp [hm]
theorem F111 (f : FuncId) (caps : List AV) (hcaps : AV.dones caps = true) (p : Nat → Bool) (hf : ∀ i : Nat, i < 6 → Ctr Try.prog f (enc (i : Int) :: caps) (enc (p i))) : Ctr Try.prog 111 [.func f caps] (enc (cnt (fun i => !p i) 6 : Int)) := by
  refine Ctr.mk' Try.func111 ca111 cc111 cr111 (Nat.le_of_ble_eq_true rfl) (fun hwf W0 D0 E1 => ?_)
  simp only [c111, r111, idx, Nat.zero_add, Nat.reduceAdd]
  have hcl : AV.closeds caps = true := dones_closed caps hcaps
  have hfc : ∀ bx A, fins bx A caps = some caps := fun bx A => fins_dones bx A caps hcaps
  have hon : ∀ q, AV.onlys q caps = true := fun q => onlys_closed q caps hcl
  refine AW.seq (AW.reg cd111_0 fun K hK => ?_)
  simp only [g111_0, bR, Nat.reduceEqDiff, reduceIte, Int.reduceBNe, Int.reduceBEq]
  refine .done (hK _ ?_); clear hK K; simp only [thenQ, blockQ]
  refine AW.seq (AW.reg cd111_1 fun K hK => ?_)
  simp only [g111_1, bR, Nat.reduceEqDiff, reduceIte, Int.reduceBNe, Int.reduceBEq]
  refine .done (hK _ ?_); clear hK K; simp only [thenQ, blockQ]
  refine AW.seq ?_
  refine AW.seq (AW.reg cd111_2 fun K hK => ?_)
  simp only [g111_2, bR, Nat.reduceEqDiff, reduceIte, Int.reduceBNe, Int.reduceBEq]
  refine .done (hK _ ?_); clear hK K; simp only [thenQ, blockQ]
  refine AW.block (AW.loop (fun i : Nat => mkA [(0, .func f caps), (3, .int .i64 (cnt (fun i => !p i) i : Int)), (5, .int .i64 i)] []) (fun i => i ≤ 6 ∧ cnt (fun i => !p i) i ≤ i) (fun i => 6 - i) 0 ⟨by omega, by simp [cnt]⟩ ?_ (fun i hi => ?_))
  · refine Sub.of_lists ?_ ?_ ?_ ?_ <;> simp [subT, subO, onlyT, onlyO, isIn, look_cons, lookO_cons, lookO_nil, AV.only, AV.onlys, AO.only, onlys_map, onlys_append, e_only, e_int, e_bool, hon, cnt]
  · refine AW.seq (AW.reg cd111_3 fun K hK => ?_)
    simp only [g111_3, bR, Nat.reduceEqDiff, reduceIte, Int.reduceBNe, Int.reduceBEq]
    refine .done (hK _ ?_); clear hK K; simp only [thenQ, blockQ]
    refine AW.seq ?_
    refine AW.ite ?_
    simp only [condQ, bR, Nat.reduceEqDiff, reduceIte, Int.reduceBNe, Int.reduceBEq]
    refine ⟨fun h => ?_, fun h => ?_⟩
    · have hlt : i < 6 := by simp at h; omega
      refine AW.skip ?_; simp only [thenQ, blockQ, reduceIte, Nat.reduceEqDiff]
      refine AW.seq (AW.block ?_)
      refine AW.seq (AW.reg cd111_4 fun K hK => ?_)
      simp only [g111_4, bR, Nat.reduceEqDiff, reduceIte, Int.reduceBNe, Int.reduceBEq]
      refine .done (hK _ ?_); clear hK K; simp only [thenQ, blockQ]
      refine AW.seq (AW.reg cd111_5 fun K hK => ?_)
      simp only [g111_5, bR, Nat.reduceEqDiff, reduceIte, Int.reduceBNe, Int.reduceBEq]
      simp only [List.cons_append, hfc, bR, Nat.reduceEqDiff, reduceIte, Int.reduceBNe, Int.reduceBEq]
      refine .flat _ (hf i hlt) rfl ?_
      simp only [bR, Nat.reduceEqDiff, reduceIte, Int.reduceBNe, Int.reduceBEq]
      refine .done (hK _ ?_); clear hK K; simp only [thenQ, blockQ]
      refine AW.ite ?_
      simp only [condQ, bR, Nat.reduceEqDiff, reduceIte, Int.reduceBNe, Int.reduceBEq]
      refine ⟨fun h => ?_, fun h => ?_⟩
      · simp at h
        refine AW.reg cd111_6 fun K hK => ?_
        simp only [g111_6, bR, Nat.reduceEqDiff, reduceIte, Int.reduceBNe, Int.reduceBEq]
        refine .done (hK _ ?_); clear hK K; simp only [thenQ, blockQ]
        refine AW.reg cd111_7 fun K hK => ?_
        simp only [g111_7, bR, Nat.reduceEqDiff, reduceIte, Int.reduceBNe, Int.reduceBEq]
        refine .done (hK _ ?_); clear hK K; simp only [thenQ, blockQ]
        refine ⟨i + 1, ⟨by omega, ?_⟩, by omega, ?_⟩
        · simp only [cnt]; split <;> omega
        · rw [wrap_id _ (by omega) (by omega), wrap_id _ (by omega) (by omega)]
          refine Sub.of_lists ?_ ?_ ?_ ?_ <;> simp [subT, subO, onlyT, onlyO, isIn, look_cons, lookO_cons, lookO_nil, AV.only, AV.onlys, AO.only, onlys_map, onlys_append, e_only, e_int, e_bool, hon, cnt, h]
      · simp at h
        refine AW.skip ?_; simp only [thenQ, blockQ, reduceIte, Nat.reduceEqDiff]
        refine AW.reg cd111_7 fun K hK => ?_
        simp only [g111_7, bR, Nat.reduceEqDiff, reduceIte, Int.reduceBNe, Int.reduceBEq]
        refine .done (hK _ ?_); clear hK K; simp only [thenQ, blockQ]
        refine ⟨i + 1, ⟨by omega, ?_⟩, by omega, ?_⟩
        · simp only [cnt]; split <;> omega
        · rw [wrap_id _ (by omega) (by omega)]
          refine Sub.of_lists ?_ ?_ ?_ ?_ <;> simp [subT, subO, onlyT, onlyO, isIn, look_cons, lookO_cons, lookO_nil, AV.only, AV.onlys, AO.only, onlys_map, onlys_append, e_only, e_int, e_bool, hon, cnt, h]
    · have hge : i = 6 := by simp at h; omega
      subst hge
      refine AW.exit ?_; simp only [thenQ, blockQ, reduceIte, Nat.reduceEqDiff]
      refine AW.seq (AW.reg cd111_8 fun K hK => ?_)
      simp only [g111_8, bR, Nat.reduceEqDiff, reduceIte, Int.reduceBNe, Int.reduceBEq]
      refine .done (hK _ ?_); clear hK K; simp only [thenQ, blockQ]
      refine AW.ret ?_
      simp only [blockQ, thenQ, bR, Nat.reduceEqDiff, reduceIte, Int.reduceBNe, Int.reduceBEq]
end Go.Proofs.Ytkjkbpgdpnapfaa

/-
  FUNCTIONS OF THE PACKAGE mark BY CONTRACT: cost, distance; IndexFunc and ContainsFunc over given marks; isApart.
-/
namespace Go.Proofs.Ytkjkbpgdpnapfaa
open Go Go.Abs
open Go.Abs.Enc (enc)
theorem F113 (w : Arr 5 Int) (m r : Arr 6 Int) (hm : okMark m = true) (i : Nat) (hi : i < 6) : Ctr Try.prog 113 (enc (i : Int) :: [.ref (.func 78 []), .ref (enc w), .ref (enc m), .ref (enc r)]) (enc (!costAt w m r i)) := by
  obtain ⟨h0, h5⟩ := okMark_at hm hi
  refine Ctr.mk' Try.func113 ca113 cc113 cr113 (Nat.le_of_ble_eq_true rfl) (fun hwf W0 D0 E1 => ?_)
  simp only [c113, r113, idx, Nat.zero_add, Nat.reduceAdd]
  refine AW.seq (AW.reg cd113_0 fun K hK => ?_)
  simp only [g113_0, bR, Nat.reduceEqDiff, reduceIte, Int.reduceBNe, Int.reduceBEq]
  refine .done (hK _ ?_); clear hK K; simp only [thenQ, blockQ]
  refine AW.seq (AW.reg cd113_1 fun K hK => ?_)
  simp only [g113_1, bR, Nat.reduceEqDiff, reduceIte, Int.reduceBNe, Int.reduceBEq]
  simp only [typR, useR, okR, e_fin, bR, Nat.reduceEqDiff, reduceIte, Int.reduceBNe, Int.reduceBEq]
  refine .flat _ (F77 w m i hi h0 h5) rfl ?_
  simp only [typR, useR, okR, inB_nat 1 r hi rfl, iaR, get_g r hi, List.append_nil, bR, Nat.reduceEqDiff, reduceIte, Int.reduceBNe, Int.reduceBEq]
  refine .flat _ (F78 _ _) rfl ?_
  simp only [bR, Nat.reduceEqDiff, reduceIte, Int.reduceBNe, Int.reduceBEq]
  refine .done (hK _ ?_); clear hK K; simp only [thenQ, blockQ]
  refine AW.ret ?_
  simp only [blockQ, thenQ, bR, Nat.reduceEqDiff, reduceIte, Int.reduceBNe, Int.reduceBEq]
  simp [costAt, bne]
theorem F112 (w : Arr 5 Int) (a b : Arr 6 Int) (ha : okMark a = true) (hb : okMark b = true) (i : Nat) (hi : i < 6) : Ctr Try.prog 112 (enc (i : Int) :: [.ref (.func 78 []), .ref (enc w), .ref (enc a), .ref (enc b)]) (enc (!apartAt w a b i)) := by
  obtain ⟨h0, h5⟩ := okMark_at ha hi
  obtain ⟨k0, k5⟩ := okMark_at hb hi
  refine Ctr.mk' Try.func112 ca112 cc112 cr112 (Nat.le_of_ble_eq_true rfl) (fun hwf W0 D0 E1 => ?_)
  simp only [c112, r112, idx, Nat.zero_add, Nat.reduceAdd]
  refine AW.seq (AW.reg cd112_0 fun K hK => ?_)
  simp only [g112_0, bR, Nat.reduceEqDiff, reduceIte, Int.reduceBNe, Int.reduceBEq]
  refine .done (hK _ ?_); clear hK K; simp only [thenQ, blockQ]
  refine AW.seq (AW.reg cd112_1 fun K hK => ?_)
  simp only [g112_1, bR, Nat.reduceEqDiff, reduceIte, Int.reduceBNe, Int.reduceBEq]
  simp only [typR, useR, okR, e_fin, bR, Nat.reduceEqDiff, reduceIte, Int.reduceBNe, Int.reduceBEq]
  refine .flat _ (F77 w a i hi h0 h5) rfl ?_
  simp only [typR, useR, okR, e_fin, bR, Nat.reduceEqDiff, reduceIte, Int.reduceBNe, Int.reduceBEq]
  refine .flat _ (F77 w b i hi k0 k5) rfl ?_
  simp only [okR, List.append_nil, bR, Nat.reduceEqDiff, reduceIte, Int.reduceBNe, Int.reduceBEq]
  refine .flat _ (F78 _ _) rfl ?_
  simp only [bR, Nat.reduceEqDiff, reduceIte, Int.reduceBNe, Int.reduceBEq]
  refine .done (hK _ ?_); clear hK K; simp only [thenQ, blockQ]
  refine AW.ret ?_
  simp only [blockQ, thenQ, bR, Nat.reduceEqDiff, reduceIte, Int.reduceBNe, Int.reduceBEq]
  simp [apartAt, bne]
theorem stR3_f {A : AState} {n : Nat} {b : AV} {f : FuncId} {caps : List AV} {rest : List G} : stR3 A none n [] b (.func f caps) rest (some .nilf) = aops rest (A.setO n (.box (b.setAt [] (.func f caps)))) := stR3_ok rfl rfl (by simp [AV.sh])
theorem F88 (w : Arr 5 Int) (m r : Arr 6 Int) (hm : okMark m = true) : Ctr Try.prog 88 [enc w, enc m, enc r] (enc (costOf w m r)) := by
  refine Ctr.mk' Try.func88 ca88 cc88 cr88 (Nat.le_of_ble_eq_true rfl) (fun hwf W0 D0 E1 => ?_)
  simp only [c88, r88, idx, Nat.zero_add, Nat.reduceAdd]
  refine AW.seq (AW.reg cd88_0 fun K hK => ?_)
  simp only [g88_0, bR, Nat.reduceEqDiff, reduceIte, Int.reduceBNe, Int.reduceBEq]
  simp only [e_isVal, bR, Nat.reduceEqDiff, reduceIte, Int.reduceBNe, Int.reduceBEq]
  refine .done (hK _ ?_); clear hK K; simp only [thenQ, blockQ]
  refine AW.seq (AW.reg cd88_1 fun K hK => ?_)
  simp only [g88_1, bR, Nat.reduceEqDiff, reduceIte, Int.reduceBNe, Int.reduceBEq]
  simp only [stR3_f, bR, Nat.reduceEqDiff, reduceIte, Int.reduceBNe, Int.reduceBEq]
  refine .done (hK _ ?_); clear hK K; simp only [thenQ, blockQ]
  refine AW.seq (AW.reg cd88_2 fun K hK => ?_)
  simp only [g88_2, bR, Nat.reduceEqDiff, reduceIte, Int.reduceBNe, Int.reduceBEq]
  simp only [List.all_cons, List.all_nil, AV.isVal, Bool.and_self, e_closed, bR, Nat.reduceEqDiff, reduceIte, Int.reduceBNe, Int.reduceBEq]
  refine .flat _ (F111 113 [.ref (.func 78 []), .ref (enc w), .ref (enc m), .ref (enc r)] ?_ (fun i => !costAt w m r i) (fun i hi => F113 w m r hm i hi)) rfl ?_
  · simp only [AV.dones, AV.done, AV.closed, AV.closeds, e_closed, Bool.and_self]
  simp only [bR, Nat.reduceEqDiff, reduceIte, Int.reduceBNe, Int.reduceBEq]
  refine .done (hK _ ?_); clear hK K; simp only [thenQ, blockQ]
  refine AW.ret ?_
  simp only [blockQ, thenQ, bR, Nat.reduceEqDiff, reduceIte, Int.reduceBNe, Int.reduceBEq]
  simp only [costOf, Bool.not_not]
theorem F87 (w : Arr 5 Int) (a b : Arr 6 Int) (ha : okMark a = true) (hb : okMark b = true) : Ctr Try.prog 87 [enc w, enc a, enc b] (enc (cnt (apartAt w a b) 6 : Int)) := by
  refine Ctr.mk' Try.func87 ca87 cc87 cr87 (Nat.le_of_ble_eq_true rfl) (fun hwf W0 D0 E1 => ?_)
  simp only [c87, r87, idx, Nat.zero_add, Nat.reduceAdd]
  refine AW.seq (AW.reg cd87_0 fun K hK => ?_)
  simp only [g87_0, bR, Nat.reduceEqDiff, reduceIte, Int.reduceBNe, Int.reduceBEq]
  simp only [e_isVal, bR, Nat.reduceEqDiff, reduceIte, Int.reduceBNe, Int.reduceBEq]
  refine .done (hK _ ?_); clear hK K; simp only [thenQ, blockQ]
  refine AW.seq (AW.reg cd87_1 fun K hK => ?_)
  simp only [g87_1, bR, Nat.reduceEqDiff, reduceIte, Int.reduceBNe, Int.reduceBEq]
  simp only [stR3_f, bR, Nat.reduceEqDiff, reduceIte, Int.reduceBNe, Int.reduceBEq]
  refine .done (hK _ ?_); clear hK K; simp only [thenQ, blockQ]
  refine AW.seq (AW.reg cd87_2 fun K hK => ?_)
  simp only [g87_2, bR, Nat.reduceEqDiff, reduceIte, Int.reduceBNe, Int.reduceBEq]
  simp only [List.all_cons, List.all_nil, AV.isVal, Bool.and_self, e_closed, bR, Nat.reduceEqDiff, reduceIte, Int.reduceBNe, Int.reduceBEq]
  refine .flat _ (F111 112 [.ref (.func 78 []), .ref (enc w), .ref (enc a), .ref (enc b)] ?_ (fun i => !apartAt w a b i) (fun i hi => F112 w a b ha hb i hi)) rfl ?_
  · simp only [AV.dones, AV.done, AV.closed, AV.closeds, e_closed, Bool.and_self]
  simp only [bR, Nat.reduceEqDiff, reduceIte, Int.reduceBNe, Int.reduceBEq]
  refine .done (hK _ ?_); clear hK K; simp only [thenQ, blockQ]
  refine AW.ret ?_
  simp only [blockQ, thenQ, bR, Nat.reduceEqDiff, reduceIte, Int.reduceBNe, Int.reduceBEq]
  simp only [Bool.not_not]
end Go.Proofs.Ytkjkbpgdpnapfaa

/-
  FUNCTIONS OF THE PACKAGE mark BY CONTRACT: IndexFunc and ContainsFunc over given marks; isApart; Check; first.
-/
namespace Go.Proofs.Ytkjkbpgdpnapfaa
open Go Go.Abs
open Go.Abs.Enc (enc)
theorem F120 (m : Marks) (g : Given) (k : Arr 6 Int) (hg : okMark g.mark = true) (hk : okMark k = true) : Ctr Try.prog 120 (enc g :: [.ref (enc m), .ref (enc k)]) (enc (tooNear m g.mark k)) := by
  refine Ctr.mk' Try.func120 ca120 cc120 cr120 (Nat.le_of_ble_eq_true rfl) (fun hwf W0 D0 E1 => ?_)
  simp only [c120, r120, idx, Nat.zero_add, Nat.reduceAdd]
  refine AW.seq (AW.reg cd120_0 fun K hK => ?_)
  simp only [g120_0, bR, Nat.reduceEqDiff, reduceIte, Int.reduceBNe, Int.reduceBEq]
  simp only [e_isVal, bR, Nat.reduceEqDiff, reduceIte, Int.reduceBNe, Int.reduceBEq]
  refine .done (hK _ ?_); clear hK K; simp only [thenQ, blockQ]
  refine AW.seq (AW.reg cd120_1 fun K hK => ?_)
  simp only [g120_1, bR, Nat.reduceEqDiff, reduceIte, Int.reduceBNe, Int.reduceBEq]
  simp only [typR, useR, okR, e_fin, bR, Nat.reduceEqDiff, reduceIte, Int.reduceBNe, Int.reduceBEq]
  refine .flat _ (F87 m.wear g.mark k hg hk) rfl ?_
  simp only [typR, useR, okR, bR, Nat.reduceEqDiff, reduceIte, Int.reduceBNe, Int.reduceBEq]
  refine .done (hK _ ?_); clear hK K; simp only [thenQ, blockQ]
  refine AW.ret ?_
  simp only [blockQ, thenQ, bR, Nat.reduceEqDiff, reduceIte, Int.reduceBNe, Int.reduceBEq]
  rfl
theorem F108 (l : List Given) (f : FuncId) (caps : List AV) (hcaps : AV.dones caps = true) (p : Given → Bool) (hf : ∀ x ∈ l, Ctr Try.prog f (enc x :: caps) (enc (p x))) : Ctr Try.prog 108 [enc l, .func f caps] (enc (match l.findIdx? p with | some i => (i : Int) | none => -1)) := by
  refine Ctr.mk' Try.func108 ca108 cc108 cr108 (Nat.le_of_ble_eq_true rfl) (fun hwf W0 D0 E1 => ?_)
  simp only [c108, r108, idx, Nat.zero_add, Nat.reduceAdd]
  have hlen : l.length ≤ maxLen := ((wf_list l).1 hwf.1).1
  simp only [maxLen] at hlen
  have hcl : AV.closeds caps = true := dones_closed caps hcaps
  have hfc : ∀ bx A, fins bx A caps = some caps := fun bx A => fins_dones bx A caps hcaps
  have hon : ∀ q, AV.onlys q caps = true := fun q => onlys_closed q caps hcl
  refine AW.seq (AW.reg cd108_0 fun K hK => ?_)
  simp only [g108_0, bR, Nat.reduceEqDiff, reduceIte, Int.reduceBNe, Int.reduceBEq]
  refine .done (hK _ ?_); clear hK K; simp only [thenQ, blockQ]
  refine AW.seq ?_
  refine AW.seq (AW.reg cd108_1 fun K hK => ?_)
  simp only [g108_1, useR, bR, Nat.reduceEqDiff, reduceIte, Int.reduceBNe, Int.reduceBEq]
  refine .done (hK _ ?_); clear hK K; simp only [thenQ, blockQ]
  refine AW.block (AW.loop (fun i : Nat => mkA [(0, enc l), (1, .func f caps), (7, .int .i64 l.length), (8, .int .i64 i)] []) (fun i => i ≤ l.length ∧ ∀ x ∈ l.take i, p x = false) (fun i => l.length - i) 0 ⟨Nat.zero_le _, by simp⟩ ?_ (fun i hi => ?_))
  · refine Sub.of_lists ?_ ?_ ?_ ?_ <;> simp [subT, subO, onlyT, onlyO, isIn, look_cons, lookO_cons, lookO_nil, AV.only, AV.onlys, AO.only, onlys_map, onlys_append, e_only, e_int, e_bool, hon]
  · refine AW.seq (AW.reg cd108_2 fun K hK => ?_)
    simp only [g108_2, bR, Nat.reduceEqDiff, reduceIte, Int.reduceBNe, Int.reduceBEq]
    refine .done (hK _ ?_); clear hK K; simp only [thenQ, blockQ]
    refine AW.seq ?_
    refine AW.ite ?_
    simp only [condQ, bR, Nat.reduceEqDiff, reduceIte, Int.reduceBNe, Int.reduceBEq]
    refine ⟨fun h => ?_, fun h => ?_⟩
    · have hlt : i < l.length := by simpa using h
      refine AW.skip ?_; simp only [thenQ, blockQ, reduceIte, Nat.reduceEqDiff]
      refine AW.seq (AW.block ?_)
      refine AW.seq (AW.reg cd108_3 fun K hK => ?_)
      simp only [g108_3, bR, Nat.reduceEqDiff, reduceIte, Int.reduceBNe, Int.reduceBEq]
      refine .done (hK _ ?_); clear hK K; simp only [thenQ, blockQ]
      refine AW.seq (AW.reg cd108_4 fun K hK => ?_)
      simp only [g108_4, bR, Nat.reduceEqDiff, reduceIte, Int.reduceBNe, Int.reduceBEq]
      simp only [isE_nat 7 hlt rfl, typR, okR, List.cons_append, hfc, e_fin, bR, Nat.reduceEqDiff, reduceIte, Int.reduceBNe, Int.reduceBEq]
      refine .flat _ (hf _ (List.getElem_mem hlt)) rfl ?_
      simp only [bR, Nat.reduceEqDiff, reduceIte, Int.reduceBNe, Int.reduceBEq]
      refine .done (hK _ ?_); clear hK K; simp only [thenQ, blockQ]
      refine AW.ite ?_
      simp only [condQ, bR, Nat.reduceEqDiff, reduceIte, Int.reduceBNe, Int.reduceBEq]
      refine ⟨fun h => ?_, fun h => ?_⟩
      · refine AW.seq (AW.reg cd108_5 fun K hK => ?_)
        simp only [g108_5, bR, Nat.reduceEqDiff, reduceIte, Int.reduceBNe, Int.reduceBEq]
        refine .done (hK _ ?_); clear hK K; simp only [thenQ, blockQ]
        refine AW.ret ?_
        simp only [blockQ, thenQ, bR, Nat.reduceEqDiff, reduceIte, Int.reduceBNe, Int.reduceBEq]
        simp [findIdx?_some_at hlt hi.2 h]
      · refine AW.skip ?_; simp only [thenQ, blockQ, reduceIte, Nat.reduceEqDiff]
        refine AW.reg cd108_6 fun K hK => ?_
        simp only [g108_6, bR, Nat.reduceEqDiff, reduceIte, Int.reduceBNe, Int.reduceBEq]
        refine .done (hK _ ?_); clear hK K; simp only [thenQ, blockQ]
        refine ⟨i + 1, ⟨by omega, fun x hm => ?_⟩, by omega, ?_⟩
        · rw [List.take_succ_eq_append_getElem hlt] at hm
          rcases List.mem_append.1 hm with hm | hm
          · exact hi.2 x hm
          · simp at hm; rw [hm]; exact h
        · rw [wrap_id _ (by omega) (by omega)]
          refine Sub.of_lists ?_ ?_ ?_ ?_ <;> simp [subT, subO, onlyT, onlyO, isIn, look_cons, lookO_cons, lookO_nil, AV.only, AV.onlys, AO.only, onlys_map, onlys_append, e_only, e_int, e_bool, hon]
    · have hge : i = l.length := by simp at h; omega
      refine AW.exit ?_; simp only [thenQ, blockQ, reduceIte, Nat.reduceEqDiff]
      refine AW.seq (AW.reg cd108_7 fun K hK => ?_)
      simp only [g108_7, bR, Nat.reduceEqDiff, reduceIte, Int.reduceBNe, Int.reduceBEq]
      refine .done (hK _ ?_); clear hK K; simp only [thenQ, blockQ]
      refine AW.ret ?_
      simp only [blockQ, thenQ, bR, Nat.reduceEqDiff, reduceIte, Int.reduceBNe, Int.reduceBEq]
      simp [hge] at hi
      simp [findIdx?_none_take hi]
theorem findIdx?_any {α : Type} (p : α → Bool) (l : List α) : decide (0 ≤ (match l.findIdx? p with | some i => (i : Int) | none => -1)) = l.any p := by
  cases h : l.findIdx? p with
  | none =>
    rw [List.findIdx?_eq_none_iff] at h
    have : l.any p = false := by rw [List.any_eq_false]; intro x hx; simp [h x hx]
    simp [this]
  | some i =>
    rw [List.findIdx?_eq_some_iff_getElem] at h
    obtain ⟨h1, h2, _⟩ := h
    have : l.any p = true := by rw [List.any_eq_true]; exact ⟨_, List.getElem_mem h1, h2⟩
    rw [this]
    exact decide_eq_true (Int.natCast_nonneg i)
theorem F119 (l : List Given) (f : FuncId) (caps : List AV) (hcaps : AV.dones caps = true) (p : Given → Bool) (hf : ∀ x ∈ l, Ctr Try.prog f (enc x :: caps) (enc (p x))) : Ctr Try.prog 119 [enc l, .func f caps] (enc (l.any p)) := by
  refine Ctr.mk' Try.func119 ca119 cc119 cr119 (Nat.le_of_ble_eq_true rfl) (fun hwf W0 D0 E1 => ?_)
  simp only [c119, r119, idx, Nat.zero_add, Nat.reduceAdd]
  have hcl : AV.closeds caps = true := dones_closed caps hcaps
  have hfc : ∀ bx A, fins bx A caps = some caps := fun bx A => fins_dones bx A caps hcaps
  refine AW.seq (AW.reg cd119_0 fun K hK => ?_)
  simp only [g119_0, bR, Nat.reduceEqDiff, reduceIte, Int.reduceBNe, Int.reduceBEq]
  refine .done (hK _ ?_); clear hK K; simp only [thenQ, blockQ]
  refine AW.seq (AW.reg cd119_1 fun K hK => ?_)
  simp only [g119_1, bR, Nat.reduceEqDiff, reduceIte, Int.reduceBNe, Int.reduceBEq]
  simp only [e_fin, hfc, bR, Nat.reduceEqDiff, reduceIte, Int.reduceBNe, Int.reduceBEq]
  refine .flat _ (F108 l f caps hcaps p hf) rfl ?_
  simp only [bR, Nat.reduceEqDiff, reduceIte, Int.reduceBNe, Int.reduceBEq]
  refine .done (hK _ ?_); clear hK K; simp only [thenQ, blockQ]
  refine AW.ret ?_
  simp only [blockQ, thenQ, bR, Nat.reduceEqDiff, reduceIte, Int.reduceBNe, Int.reduceBEq]
  rw [findIdx?_any]
theorem F98 (m : Marks) (l : List Given) (k : Arr 6 Int) (hl : ∀ g ∈ l, okMark g.mark = true) (hk : okMark k = true) : Ctr Try.prog 98 [enc m, enc l, enc k] (enc (!l.any fun g => tooNear m g.mark k)) := by
  refine Ctr.mk' Try.func98 ca98 cc98 cr98 (Nat.le_of_ble_eq_true rfl) (fun hwf W0 D0 E1 => ?_)
  simp only [c98, r98, idx, Nat.zero_add, Nat.reduceAdd]
  refine AW.seq (AW.reg cd98_0 fun K hK => ?_)
  simp only [g98_0, bR, Nat.reduceEqDiff, reduceIte, Int.reduceBNe, Int.reduceBEq]
  simp only [e_isVal, bR, Nat.reduceEqDiff, reduceIte, Int.reduceBNe, Int.reduceBEq]
  refine .done (hK _ ?_); clear hK K; simp only [thenQ, blockQ]
  refine AW.seq (AW.reg cd98_1 fun K hK => ?_)
  simp only [g98_1, bR, Nat.reduceEqDiff, reduceIte, Int.reduceBNe, Int.reduceBEq]
  simp only [List.all_cons, List.all_nil, AV.isVal, Bool.and_self, e_closed, e_fin, bR, Nat.reduceEqDiff, reduceIte, Int.reduceBNe, Int.reduceBEq]
  refine .flat _ (F119 l 120 [.ref (enc m), .ref (enc k)] ?_ (fun g => tooNear m g.mark k) (fun g hg => F120 m g k (hl g hg) hk)) rfl ?_
  · simp only [AV.dones, AV.done, e_closed, Bool.and_self]
  simp only [bR, Nat.reduceEqDiff, reduceIte, Int.reduceBNe, Int.reduceBEq]
  refine .done (hK _ ?_); clear hK K; simp only [thenQ, blockQ]
  refine AW.ret ?_
  simp only [blockQ, thenQ, bR, Nat.reduceEqDiff, reduceIte, Int.reduceBNe, Int.reduceBEq]
theorem slE_take {α : Type} [Enc α] {A : AState} (esz : Nat) {l : List α} {i : Nat} (h : i ≤ l.length) (hs : Enc.sz α = esz) : slE A esz none (some (.int .i64 i)) none (enc l) = some (enc (l.take i)) := by
  simp only [slE, e_list, hs, if_true, sliceOf, bound, List.length_map]
  rw [if_pos ⟨by omega, by omega, by omega, by omega⟩]
  simp
theorem any_take (m : Marks) (k : Arr 6 Int) {i : Nat} (h : i ≤ m.given.length) : (!(m.given.take i).any fun g => tooNear m g.mark k) = (List.range i).all (fun j => !tooNear m (gv m j).mark k) := by
  rw [Bool.eq_iff_iff]
  simp only [Bool.not_eq_true', List.any_eq_false, List.all_eq_true, List.mem_range]
  constructor
  · intro h1 j hj
    have hjl : j < m.given.length := by omega
    have := h1 m.given[j] (by rw [List.mem_take_iff_getElem]; exact ⟨j, by omega, rfl⟩)
    rw [gv_eq hjl] at this
    simpa using this
  · intro h1 g hg
    rw [List.mem_take_iff_getElem] at hg
    obtain ⟨j, hj, rfl⟩ := hg
    have hjl : j < m.given.length := by omega
    rw [gv_eq hjl]
    simpa using h1 j (by omega)
theorem F47 (m : Marks) : Ctr Try.prog 47 [enc m] (enc (if okM m then (0 : Int) else 13)) := by
  refine Ctr.mk' Try.func47 ca47 cc47 cr47 (Nat.le_of_ble_eq_true rfl) (fun hwf W0 D0 E1 => ?_)
  simp only [c47, r47, idx, Nat.zero_add, Nat.reduceAdd]
  refine AW.seq (AW.reg cd47_0 fun K hK => ?_)
  simp only [g47_0, bR, Nat.reduceEqDiff, reduceIte, Int.reduceBNe, Int.reduceBEq]
  simp only [e_isVal, bR, Nat.reduceEqDiff, reduceIte, Int.reduceBNe, Int.reduceBEq]
  refine .done (hK _ ?_); clear hK K; simp only [thenQ, blockQ]
  refine AW.seq (AW.seq ?_)
  refine AW.reg cd47_1 fun K hK => ?_
  simp only [g47_1, bR, Nat.reduceEqDiff, reduceIte, Int.reduceBNe, Int.reduceBEq]
  simp only [typR, useR, okR, e_fin, bR, Nat.reduceEqDiff, reduceIte, Int.reduceBNe, Int.reduceBEq]
  refine .flat _ (F95 m.wear) rfl ?_
  generalize hw : okWear m.wear = bw
  cases bw
  · simp only [typR, useR, okR, bR, Nat.reduceEqDiff, reduceIte, Int.reduceBNe, Int.reduceBEq]
    refine .done (hK _ ?_); clear hK K; simp only [thenQ, blockQ]
    refine AW.ite ?_
    simp only [condQ, bR, Nat.reduceEqDiff, reduceIte, Int.reduceBNe, Int.reduceBEq]
    refine ⟨fun h => ?_, fun h => ?_⟩
    · refine AW.seq (AW.reg cd47_2 fun K hK => ?_)
      simp only [g47_2, bR, Nat.reduceEqDiff, reduceIte, Int.reduceBNe, Int.reduceBEq]
      refine .done (hK _ ?_); clear hK K; simp only [thenQ, blockQ]
      refine AW.ret ?_
      simp only [blockQ, thenQ, bR, Nat.reduceEqDiff, reduceIte, Int.reduceBNe, Int.reduceBEq]
      simp [okM, hw]
    · cases h
  simp only [typR, useR, okR, bR, Nat.reduceEqDiff, reduceIte, Int.reduceBNe, Int.reduceBEq]
  refine .flat _ (F89 m.fls 0 2) rfl ?_
  generalize hf : inR 0 2 m.fls = bf
  cases bf
  · simp only [typR, useR, okR, bR, Nat.reduceEqDiff, reduceIte, Int.reduceBNe, Int.reduceBEq]
    refine .done (hK _ ?_); clear hK K; simp only [thenQ, blockQ]
    refine AW.ite ?_
    simp only [condQ, bR, Nat.reduceEqDiff, reduceIte, Int.reduceBNe, Int.reduceBEq]
    refine ⟨fun h => ?_, fun h => ?_⟩
    · refine AW.seq (AW.reg cd47_2 fun K hK => ?_)
      simp only [g47_2, bR, Nat.reduceEqDiff, reduceIte, Int.reduceBNe, Int.reduceBEq]
      refine .done (hK _ ?_); clear hK K; simp only [thenQ, blockQ]
      refine AW.ret ?_
      simp only [blockQ, thenQ, bR, Nat.reduceEqDiff, reduceIte, Int.reduceBNe, Int.reduceBEq]
      simp [okM, hw, hf]
    · cases h
  simp only [typR, useR, okR, bR, Nat.reduceEqDiff, reduceIte, Int.reduceBNe, Int.reduceBEq]
  refine .done (hK _ ?_); clear hK K; simp only [thenQ, blockQ]
  refine AW.ite ?_
  simp only [condQ, bR, Nat.reduceEqDiff, reduceIte, Int.reduceBNe, Int.reduceBEq]
  refine ⟨fun h => ?_, fun h => ?_⟩
  · refine AW.seq (AW.reg cd47_2 fun K hK => ?_)
    simp only [g47_2, bR, Nat.reduceEqDiff, reduceIte, Int.reduceBNe, Int.reduceBEq]
    refine .done (hK _ ?_); clear hK K; simp only [thenQ, blockQ]
    refine AW.ret ?_
    simp only [blockQ, thenQ, bR, Nat.reduceEqDiff, reduceIte, Int.reduceBNe, Int.reduceBEq]
    have : ¬ m.given.length ≤ 40 := by simp at h; omega
    simp [okM, hw, hf, this]
  have hlen : m.given.length ≤ 40 := by simp at h; omega
  refine AW.skip ?_; simp only [thenQ, blockQ, reduceIte, Nat.reduceEqDiff]
  refine AW.seq (AW.seq ?_)
  refine AW.reg cd47_3 fun K hK => ?_
  simp only [g47_3, typR, useR, okR, bR, Nat.reduceEqDiff, reduceIte, Int.reduceBNe, Int.reduceBEq]
  refine .done (hK _ ?_); clear hK K; simp only [thenQ, blockQ]
  refine AW.block (AW.loop (fun i : Nat => mkA [(1, .ptr 1 []), (22, enc m.given), (23, .int .i64 m.given.length), (24, .int .i64 i)] [(1, .box (enc m))]) (fun i => i ≤ m.given.length ∧ ∀ j, j < i → okAt m j = true) (fun i => m.given.length - i) 0 ⟨by omega, fun k h => by omega⟩ ?_ (fun i hi => ?_))
  · refine Sub.of_lists ?_ ?_ ?_ ?_ <;> simp [subT, subO, onlyT, onlyO, isIn, look_cons, lookO_cons, lookO_nil, AV.only, AV.onlys, AO.only, onlys_map, onlys_append, e_only, e_int, e_bool]
  refine AW.seq (AW.reg cd47_4 fun K hK => ?_)
  simp only [g47_4, bR, Nat.reduceEqDiff, reduceIte, Int.reduceBNe, Int.reduceBEq]
  refine .done (hK _ ?_); clear hK K; simp only [thenQ, blockQ]
  refine AW.seq ?_
  refine AW.ite ?_
  simp only [condQ, bR, Nat.reduceEqDiff, reduceIte, Int.reduceBNe, Int.reduceBEq]
  refine ⟨fun h => ?_, fun h => ?_⟩
  case refine_2.refine_2 =>
    have hge : i = m.given.length := by simp at h; omega
    subst hge
    refine AW.exit ?_; simp only [thenQ, blockQ, reduceIte, Nat.reduceEqDiff]
    refine AW.seq (AW.reg cd47_9 fun K hK => ?_)
    simp only [g47_9, bR, Nat.reduceEqDiff, reduceIte, Int.reduceBNe, Int.reduceBEq]
    refine .done (hK _ ?_); clear hK K; simp only [thenQ, blockQ]
    refine AW.ret ?_
    simp only [blockQ, thenQ, bR, Nat.reduceEqDiff, reduceIte, Int.reduceBNe, Int.reduceBEq]
    have : (List.range m.given.length).all (okAt m) = true := all_true hi.2
    simp [okM, hw, hf, this, hlen]
  have hlt : i < m.given.length := by simpa using h
  refine AW.skip ?_; simp only [thenQ, blockQ, reduceIte, Nat.reduceEqDiff]
  refine AW.seq (AW.block ?_)
  refine AW.seq (AW.reg cd47_5 fun K hK => ?_)
  simp only [g47_5, bR, Nat.reduceEqDiff, reduceIte, Int.reduceBNe, Int.reduceBEq]
  simp only [typR, useR, okR, isE_gv hlt, bR, Nat.reduceEqDiff, reduceIte, Int.reduceBNe, Int.reduceBEq]
  rw [stR3_ok (e_isVal _) (by rw [e_okS]; rfl) ((e_sh _).trans rfl)]
  simp only [typR, useR, okR, bR, Nat.reduceEqDiff, reduceIte, Int.reduceBNe, Int.reduceBEq]
  refine .done (hK _ ?_); clear hK K; simp only [thenQ, blockQ]
  have bad : ∀ b, okAt m i = b → b = false → (if okM m then (0 : Int) else 13) = 13 := fun b h1 h2 => by
    have : (List.range m.given.length).all (okAt m) = false := all_false i hlt (by rw [h1, h2])
    simp [okM, this]
  have htake : ∀ g ∈ m.given.take i, okMark g.mark = true := fun g hg => by
    rw [List.mem_take_iff_getElem] at hg
    obtain ⟨j, hj, rfl⟩ := hg
    have hjl : j < m.given.length := by omega
    rw [gv_eq hjl]
    exact okAt_mark (hi.2 j (by omega))
  refine AW.seq (AW.reg cd47_6 fun K hK => ?_)
  simp only [g47_6, bR, Nat.reduceEqDiff, reduceIte, Int.reduceBNe, Int.reduceBEq]
  simp only [typR, useR, okR, e_fin, bR, Nat.reduceEqDiff, reduceIte, Int.reduceBNe, Int.reduceBEq]
  refine .flat _ (F97 (gv m i).owner) rfl ?_
  generalize ho : inR 1 99 (gv m i).owner = bo
  cases bo
  · simp only [typR, useR, okR, bR, Nat.reduceEqDiff, reduceIte, Int.reduceBNe, Int.reduceBEq]
    refine .done (hK _ ?_); clear hK K; simp only [thenQ, blockQ]
    refine AW.ite ?_
    simp only [condQ, bR, Nat.reduceEqDiff, reduceIte, Int.reduceBNe, Int.reduceBEq]
    refine ⟨fun h => ?_, fun h => ?_⟩
    · refine AW.seq (AW.reg cd47_7 fun K hK => ?_)
      simp only [g47_7, bR, Nat.reduceEqDiff, reduceIte, Int.reduceBNe, Int.reduceBEq]
      refine .done (hK _ ?_); clear hK K; simp only [thenQ, blockQ]
      refine AW.ret ?_
      simp only [blockQ, thenQ, bR, Nat.reduceEqDiff, reduceIte, Int.reduceBNe, Int.reduceBEq]
      rw [bad _ rfl (by simp [okAt, ho])]
    · cases h
  simp only [typR, useR, okR, e_fin, bR, Nat.reduceEqDiff, reduceIte, Int.reduceBNe, Int.reduceBEq]
  refine .flat _ (F93 (gv m i).mark) rfl ?_
  generalize hk : okMark (gv m i).mark = bk
  cases bk
  · simp only [typR, useR, okR, bR, Nat.reduceEqDiff, reduceIte, Int.reduceBNe, Int.reduceBEq]
    refine .done (hK _ ?_); clear hK K; simp only [thenQ, blockQ]
    refine AW.ite ?_
    simp only [condQ, bR, Nat.reduceEqDiff, reduceIte, Int.reduceBNe, Int.reduceBEq]
    refine ⟨fun h => ?_, fun h => ?_⟩
    · refine AW.seq (AW.reg cd47_7 fun K hK => ?_)
      simp only [g47_7, bR, Nat.reduceEqDiff, reduceIte, Int.reduceBNe, Int.reduceBEq]
      refine .done (hK _ ?_); clear hK K; simp only [thenQ, blockQ]
      refine AW.ret ?_
      simp only [blockQ, thenQ, bR, Nat.reduceEqDiff, reduceIte, Int.reduceBNe, Int.reduceBEq]
      rw [bad _ rfl (by simp [okAt, ho, hk])]
    · cases h
  simp only [typR, useR, okR, bR, Nat.reduceEqDiff, reduceIte, Int.reduceBNe, Int.reduceBEq]
  generalize hz : decide (0 < (i : Int)) = bz
  cases bz
  · have hprev : (i == 0 || decide ((gv m (i - 1)).owner < (gv m i).owner)) = true := by simp at hz; simp [hz]
    simp only [typR, useR, okR, bR, Nat.reduceEqDiff, reduceIte, Int.reduceBNe, Int.reduceBEq]
    simp only [typR, useR, okR, e_fin, slE_take 7 (Nat.le_of_lt hlt) rfl, Option.map_none, bR, Nat.reduceEqDiff, reduceIte, Int.reduceBNe, Int.reduceBEq]
    refine .flat _ (F98 m (m.given.take i) (gv m i).mark htake hk) rfl ?_
    rw [any_take m (gv m i).mark (Nat.le_of_lt hlt)]
    generalize hap : (List.range i).all (fun j => !tooNear m (gv m j).mark (gv m i).mark) = ba
    cases ba
    · simp only [typR, useR, okR, bR, Nat.reduceEqDiff, reduceIte, Int.reduceBNe, Int.reduceBEq]
      refine .done (hK _ ?_); clear hK K; simp only [thenQ, blockQ]
      refine AW.ite ?_
      simp only [condQ, bR, Nat.reduceEqDiff, reduceIte, Int.reduceBNe, Int.reduceBEq]
      refine ⟨fun h => ?_, fun h => ?_⟩
      · refine AW.seq (AW.reg cd47_7 fun K hK => ?_)
        simp only [g47_7, bR, Nat.reduceEqDiff, reduceIte, Int.reduceBNe, Int.reduceBEq]
        refine .done (hK _ ?_); clear hK K; simp only [thenQ, blockQ]
        refine AW.ret ?_
        simp only [blockQ, thenQ, bR, Nat.reduceEqDiff, reduceIte, Int.reduceBNe, Int.reduceBEq]
        rw [bad _ rfl (by simp only [okAt, hap, Bool.and_false])]
      · cases h
    · simp only [typR, useR, okR, bR, Nat.reduceEqDiff, reduceIte, Int.reduceBNe, Int.reduceBEq]
      refine .done (hK _ ?_); clear hK K; simp only [thenQ, blockQ]
      refine AW.ite ?_
      simp only [condQ, bR, Nat.reduceEqDiff, reduceIte, Int.reduceBNe, Int.reduceBEq]
      refine ⟨fun h => ?_, fun h => ?_⟩
      · cases h
      refine AW.skip ?_; simp only [thenQ, blockQ, reduceIte, Nat.reduceEqDiff]
      refine AW.reg cd47_8 fun K hK => ?_
      simp only [g47_8, bR, Nat.reduceEqDiff, reduceIte, Int.reduceBNe, Int.reduceBEq]
      refine .done (hK _ ?_); clear hK K; simp only [thenQ, blockQ]
      refine ⟨i + 1, ⟨by omega, fun k hk' => ?_⟩, by omega, ?_⟩
      · by_cases hki : k = i
        · rw [hki]
          simp only [okAt, ho, hk, hprev, hap, Bool.and_self]
        · exact hi.2 k (by omega)
      · rw [wrap_id _ (by omega) (by omega)]
        refine Sub.of_lists ?_ ?_ ?_ ?_ <;> simp [subT, subO, onlyT, onlyO, isIn, look_cons, lookO_cons, lookO_nil, AV.only, AV.onlys, AO.only, onlys_map, onlys_append, e_only, e_int, e_bool]
  · have hpos : 0 < i := by simpa using hz
    have hpl : i - 1 < m.given.length := by omega
    have hpred : IntKind.i64.wrap ((i : Int) - 1) = ((i - 1 : Nat) : Int) := by rw [wrap_id _ (by omega) (by omega)]; omega
    simp only [typR, useR, okR, hpred, isE_gv hpl, bR, Nat.reduceEqDiff, reduceIte, Int.reduceBNe, Int.reduceBEq]
    generalize hq : decide ((gv m i).owner ≤ (gv m (i - 1)).owner) = bq
    cases bq
    · have hprev : (i == 0 || decide ((gv m (i - 1)).owner < (gv m i).owner)) = true := by simp at hq; simp; omega
      simp only [typR, useR, okR, bR, Nat.reduceEqDiff, reduceIte, Int.reduceBNe, Int.reduceBEq]
      simp only [typR, useR, okR, e_fin, slE_take 7 (Nat.le_of_lt hlt) rfl, Option.map_none, bR, Nat.reduceEqDiff, reduceIte, Int.reduceBNe, Int.reduceBEq]
      refine .flat _ (F98 m (m.given.take i) (gv m i).mark htake hk) rfl ?_
      rw [any_take m (gv m i).mark (Nat.le_of_lt hlt)]
      generalize hap : (List.range i).all (fun j => !tooNear m (gv m j).mark (gv m i).mark) = ba
      cases ba
      · simp only [typR, useR, okR, bR, Nat.reduceEqDiff, reduceIte, Int.reduceBNe, Int.reduceBEq]
        refine .done (hK _ ?_); clear hK K; simp only [thenQ, blockQ]
        refine AW.ite ?_
        simp only [condQ, bR, Nat.reduceEqDiff, reduceIte, Int.reduceBNe, Int.reduceBEq]
        refine ⟨fun h => ?_, fun h => ?_⟩
        · refine AW.seq (AW.reg cd47_7 fun K hK => ?_)
          simp only [g47_7, bR, Nat.reduceEqDiff, reduceIte, Int.reduceBNe, Int.reduceBEq]
          refine .done (hK _ ?_); clear hK K; simp only [thenQ, blockQ]
          refine AW.ret ?_
          simp only [blockQ, thenQ, bR, Nat.reduceEqDiff, reduceIte, Int.reduceBNe, Int.reduceBEq]
          rw [bad _ rfl (by simp only [okAt, hap, Bool.and_false])]
        · cases h
      · simp only [typR, useR, okR, bR, Nat.reduceEqDiff, reduceIte, Int.reduceBNe, Int.reduceBEq]
        refine .done (hK _ ?_); clear hK K; simp only [thenQ, blockQ]
        refine AW.ite ?_
        simp only [condQ, bR, Nat.reduceEqDiff, reduceIte, Int.reduceBNe, Int.reduceBEq]
        refine ⟨fun h => ?_, fun h => ?_⟩
        · cases h
        refine AW.skip ?_; simp only [thenQ, blockQ, reduceIte, Nat.reduceEqDiff]
        refine AW.reg cd47_8 fun K hK => ?_
        simp only [g47_8, bR, Nat.reduceEqDiff, reduceIte, Int.reduceBNe, Int.reduceBEq]
        refine .done (hK _ ?_); clear hK K; simp only [thenQ, blockQ]
        refine ⟨i + 1, ⟨by omega, fun k hk' => ?_⟩, by omega, ?_⟩
        · by_cases hki : k = i
          · rw [hki]
            simp only [okAt, ho, hk, hprev, hap, Bool.and_self]
          · exact hi.2 k (by omega)
        · rw [wrap_id _ (by omega) (by omega)]
          refine Sub.of_lists ?_ ?_ ?_ ?_ <;> simp [subT, subO, onlyT, onlyO, isIn, look_cons, lookO_cons, lookO_nil, AV.only, AV.onlys, AO.only, onlys_map, onlys_append, e_only, e_int, e_bool]
    · simp only [typR, useR, okR, bR, Nat.reduceEqDiff, reduceIte, Int.reduceBNe, Int.reduceBEq]
      refine .done (hK _ ?_); clear hK K; simp only [thenQ, blockQ]
      refine AW.ite ?_
      simp only [condQ, bR, Nat.reduceEqDiff, reduceIte, Int.reduceBNe, Int.reduceBEq]
      refine ⟨fun h => ?_, fun h => ?_⟩
      · refine AW.seq (AW.reg cd47_7 fun K hK => ?_)
        simp only [g47_7, bR, Nat.reduceEqDiff, reduceIte, Int.reduceBNe, Int.reduceBEq]
        refine .done (hK _ ?_); clear hK K; simp only [thenQ, blockQ]
        refine AW.ret ?_
        simp only [blockQ, thenQ, bR, Nat.reduceEqDiff, reduceIte, Int.reduceBNe, Int.reduceBEq]
        have : (i == 0 || decide ((gv m (i - 1)).owner < (gv m i).owner)) = false := by simp at hq; simp; omega
        rw [bad _ rfl (by simp only [okAt, this, Bool.and_false, Bool.false_and])]
      · cases h
end Go.Proofs.Ytkjkbpgdpnapfaa

/-
  FUNCTIONS OF THE REFERENCE BY CONTRACT: arePlaces.
-/
namespace Go.Proofs.Ytkjkbpgdpnapfaa
open Go Go.Abs
open Go.Abs.Enc (enc)
def placeAt (l : List Int) (i : Nat) : Bool := inR 0 5 (l.getD i 0) && (i == 0 || decide (l.getD (i - 1) 0 < l.getD i 0))
/-- Places, in their order, none twice. -/
def okPlaces (l : List Int) : Bool := (List.range l.length).all (placeAt l)
theorem isE_getD {A : AState} {l : List Int} {i : Nat} (h : i < l.length) : isE A 1 (i : Int) (enc l) = some (.ref (.int .i64 (l.getD i 0))) := by
  rw [isE_nat 1 h rfl]
  simp [List.getD_eq_getElem?_getD, h, e_int]
end Go.Proofs.Ytkjkbpgdpnapfaa

/-
  FUNCTIONS OF THE REFERENCE BY CONTRACT: chosen, Ahead.
-/
namespace Go.Proofs.Ytkjkbpgdpnapfaa
open Go Go.Abs
open Go.Abs.Enc (enc)
/-- The order of lists of places. -/
def ahead : List Int → List Int → Bool
  | [], [] => false
  | [], _ :: _ => true
  | _ :: _, [] => false
  | a :: xs, b :: ys => if a = b then ahead xs ys else decide (a < b)
end Go.Proofs.Ytkjkbpgdpnapfaa

/-
  FUNCTIONS OF THE REFERENCE BY CONTRACT: Cost, Distance.
-/
namespace Go.Proofs.Ytkjkbpgdpnapfaa
open Go Go.Abs
open Go.Abs.Enc (enc)
def distR (w : Arr 5 Int) (a b : Arr 6 Int) : Int × Int := if okWear w then (if okMark a then (if okMark b then ((cnt (apartAt w a b) 6 : Int), 0) else (0, 10)) else (0, 10)) else (0, 11)
end Go.Proofs.Ytkjkbpgdpnapfaa

/-
  FUNCTIONS OF THE REFERENCE BY CONTRACT: Possible.
-/
namespace Go.Proofs.Ytkjkbpgdpnapfaa
open Go Go.Abs
open Go.Abs.Enc (enc)
end Go.Proofs.Ytkjkbpgdpnapfaa

/-
  FUNCTIONS OF THE PACKAGE mark BY CONTRACT: first, Cost, Distance, Possible, asked.
-/
namespace Go.Proofs.Ytkjkbpgdpnapfaa
open Go Go.Abs
open Go.Abs.Enc (enc)
def firstOf (l : List Int) : Int := (l.find? fun x => x != 0).getD 0
theorem F64 (l : List Int) : Ctr Try.prog 64 [enc l] (enc (firstOf l)) := by
  refine Ctr.mk' Try.func64 ca64 cc64 cr64 (Nat.le_of_ble_eq_true rfl) (fun hwf W0 D0 E1 => ?_)
  simp only [c64, r64, idx, Nat.zero_add, Nat.reduceAdd]
  have hlen : l.length ≤ maxLen := ((wf_list l).1 hwf.1).1
  simp only [maxLen] at hlen
  refine AW.seq (AW.reg cd64_0 fun K hK => ?_)
  simp only [g64_0, bR, Nat.reduceEqDiff, reduceIte, Int.reduceBNe, Int.reduceBEq]
  refine .done (hK _ ?_); clear hK K; simp only [thenQ, blockQ]
  refine AW.seq ?_
  refine AW.seq (AW.reg cd64_1 fun K hK => ?_)
  simp only [g64_1, useR, bR, Nat.reduceEqDiff, reduceIte, Int.reduceBNe, Int.reduceBEq]
  refine .done (hK _ ?_); clear hK K; simp only [thenQ, blockQ]
  refine AW.block (AW.loop (fun i : Nat => mkA [(5, enc l), (6, .int .i64 l.length), (7, .int .i64 i)] []) (fun i => i ≤ l.length ∧ ∀ x ∈ l.take i, x = 0) (fun i => l.length - i) 0 ⟨Nat.zero_le _, by simp⟩ ?_ (fun i hi => ?_))
  · refine Sub.of_lists ?_ ?_ ?_ ?_ <;> simp [subT, subO, onlyT, onlyO, isIn, look_cons, lookO_cons, lookO_nil, AV.only, AV.onlys, AO.only, onlys_map, onlys_append, e_only, e_int, e_bool]
  · refine AW.seq (AW.reg cd64_2 fun K hK => ?_)
    simp only [g64_2, bR, Nat.reduceEqDiff, reduceIte, Int.reduceBNe, Int.reduceBEq]
    refine .done (hK _ ?_); clear hK K; simp only [thenQ, blockQ]
    refine AW.seq ?_
    refine AW.ite ?_
    simp only [condQ, bR, Nat.reduceEqDiff, reduceIte, Int.reduceBNe, Int.reduceBEq]
    refine ⟨fun h => ?_, fun h => ?_⟩
    · have hlt : i < l.length := by simpa using h
      refine AW.skip ?_; simp only [thenQ, blockQ, reduceIte, Nat.reduceEqDiff]
      refine AW.seq (AW.block ?_)
      refine AW.seq (AW.reg cd64_3 fun K hK => ?_)
      simp only [g64_3, bR, Nat.reduceEqDiff, reduceIte, Int.reduceBNe, Int.reduceBEq]
      simp only [isE_nat 1 hlt rfl, okR, bR, Nat.reduceEqDiff, reduceIte, Int.reduceBNe, Int.reduceBEq]
      refine .done (hK _ ?_); clear hK K; simp only [thenQ, blockQ]
      refine AW.seq (AW.reg cd64_4 fun K hK => ?_)
      simp only [g64_4, bR, Nat.reduceEqDiff, reduceIte, Int.reduceBNe, Int.reduceBEq]
      refine .done (hK _ ?_); clear hK K; simp only [thenQ, blockQ]
      refine AW.ite ?_
      simp only [condQ, bR, Nat.reduceEqDiff, reduceIte, Int.reduceBNe, Int.reduceBEq]
      refine ⟨fun h => ?_, fun h => ?_⟩
      · refine AW.seq (AW.reg cd64_5 fun K hK => ?_)
        simp only [g64_5, bR, Nat.reduceEqDiff, reduceIte, Int.reduceBNe, Int.reduceBEq]
        refine .done (hK _ ?_); clear hK K; simp only [thenQ, blockQ]
        refine AW.ret ?_
        simp only [blockQ, thenQ, bR, Nat.reduceEqDiff, reduceIte, Int.reduceBNe, Int.reduceBEq]
        have h1 : l[i] ≠ 0 := by simpa using h
        have h2 : l.find? (fun x => x != 0) = some l[i] := by
          rw [List.find?_eq_some_iff_getElem]
          refine ⟨by simpa using h1, i, hlt, rfl, fun j hj => ?_⟩
          have := hi.2 l[j] (by rw [List.mem_take_iff_getElem]; exact ⟨j, by omega, rfl⟩)
          simp [this]
        simp [firstOf, h2]
      · refine AW.skip ?_; simp only [thenQ, blockQ, reduceIte, Nat.reduceEqDiff]
        refine AW.reg cd64_6 fun K hK => ?_
        simp only [g64_6, bR, Nat.reduceEqDiff, reduceIte, Int.reduceBNe, Int.reduceBEq]
        refine .done (hK _ ?_); clear hK K; simp only [thenQ, blockQ]
        refine ⟨i + 1, ⟨by omega, fun x hm => ?_⟩, by omega, ?_⟩
        · rw [List.take_succ_eq_append_getElem hlt] at hm
          rcases List.mem_append.1 hm with hm | hm
          · exact hi.2 x hm
          · simp at hm h; rw [hm]; exact h
        · rw [wrap_id _ (by omega) (by omega)]
          refine Sub.of_lists ?_ ?_ ?_ ?_ <;> simp [subT, subO, onlyT, onlyO, isIn, look_cons, lookO_cons, lookO_nil, AV.only, AV.onlys, AO.only, onlys_map, onlys_append, e_only, e_int, e_bool]
    · have hge : i = l.length := by simp at h; omega
      refine AW.exit ?_; simp only [thenQ, blockQ, reduceIte, Nat.reduceEqDiff]
      refine AW.seq (AW.reg cd64_7 fun K hK => ?_)
      simp only [g64_7, bR, Nat.reduceEqDiff, reduceIte, Int.reduceBNe, Int.reduceBEq]
      refine .done (hK _ ?_); clear hK K; simp only [thenQ, blockQ]
      refine AW.ret ?_
      simp only [blockQ, thenQ, bR, Nat.reduceEqDiff, reduceIte, Int.reduceBNe, Int.reduceBEq]
      simp [hge] at hi
      have h2 : l.find? (fun x => x != 0) = none := by
        rw [List.find?_eq_none]; intro x hx; simp [hi x hx]
      simp [firstOf, h2]
theorem bs2 (a b : Int) : bsE 1 (some [.int .i64 a, .int .i64 b]) = some (enc [a, b]) := bsE_enc (ys := [a, b]) 1 rfl
theorem bs3 (a b c : Int) : bsE 1 (some [.int .i64 a, .int .i64 b, .int .i64 c]) = some (enc [a, b, c]) := bsE_enc (ys := [a, b, c]) 1 rfl
theorem first3 (a b c : Bool) (x y z : Int) (hx : x ≠ 0) (hy : y ≠ 0) (hz : z ≠ 0) : firstOf [if a then 0 else x, if b then 0 else y, if c then 0 else z] = if a then (if b then (if c then 0 else z) else y) else x := by
  cases a <;> cases b <;> cases c <;> simp [firstOf, hx, hy, hz]
theorem first2 (a b : Bool) (x y : Int) (hx : x ≠ 0) (hy : y ≠ 0) : firstOf [if a then 0 else x, if b then 0 else y] = if a then (if b then 0 else y) else x := by
  cases a <;> cases b <;> simp [firstOf, hx, hy]
theorem F36 (w : Arr 5 Int) (a b : Arr 6 Int) : Ctr Try.prog 36 [enc w, enc a, enc b] (.tuple [enc (distR w a b).1, enc (distR w a b).2]) := by
  refine Ctr.mk' Try.func36 ca36 cc36 cr36 (Nat.le_of_ble_eq_true rfl) (fun hwf W0 D0 E1 => ?_)
  simp only [c36, r36, idx, Nat.zero_add, Nat.reduceAdd]
  refine AW.seq (AW.reg cd36_0 fun K hK => ?_)
  simp only [g36_0, bR, Nat.reduceEqDiff, reduceIte, Int.reduceBNe, Int.reduceBEq]
  simp only [e_isVal, bR, Nat.reduceEqDiff, reduceIte, Int.reduceBNe, Int.reduceBEq]
  refine .done (hK _ ?_); clear hK K; simp only [thenQ, blockQ]
  refine AW.seq ?_
  refine AW.seq (AW.reg cd36_1 fun K hK => ?_)
  simp only [g36_1, bR, Nat.reduceEqDiff, reduceIte, Int.reduceBNe, Int.reduceBEq]
  simp only [typR, useR, okR, e_fin, bR, Nat.reduceEqDiff, reduceIte, Int.reduceBNe, Int.reduceBEq]
  refine .flat _ (F43 w) rfl ?_
  simp only [typR, useR, okR, e_fin, bR, Nat.reduceEqDiff, reduceIte, Int.reduceBNe, Int.reduceBEq]
  refine .flat _ (F41 a) rfl ?_
  simp only [typR, useR, okR, e_fin, bR, Nat.reduceEqDiff, reduceIte, Int.reduceBNe, Int.reduceBEq]
  refine .flat _ (F41 b) rfl ?_
  simp only [typR, useR, okR, e_fin, bs3, bR, Nat.reduceEqDiff, reduceIte, Int.reduceBNe, Int.reduceBEq]
  refine .flat _ (F64 _) rfl ?_
  rw [first3 _ _ _ 11 10 10 (by decide) (by decide) (by decide)]
  simp only [bR, Nat.reduceEqDiff, reduceIte, Int.reduceBNe, Int.reduceBEq]
  refine .done (hK _ ?_); clear hK K; simp only [thenQ, blockQ]
  generalize hw : okWear w = bw
  generalize ha : okMark a = ba
  generalize hb : okMark b = bb
  cases bw
  · refine AW.seq (AW.reg cd36_2 fun K hK => ?_)
    simp only [g36_2, bR, Nat.reduceEqDiff, reduceIte, Int.reduceBNe, Int.reduceBEq]
    refine .done (hK _ ?_); clear hK K; simp only [thenQ, blockQ]
    refine AW.ite ?_
    simp only [condQ, bR, Nat.reduceEqDiff, reduceIte, Int.reduceBNe, Int.reduceBEq]
    refine ⟨fun h => ?_, fun h => ?_⟩
    · refine AW.seq (AW.reg cd36_3 fun K hK => ?_)
      simp only [g36_3, bR, Nat.reduceEqDiff, reduceIte, Int.reduceBNe, Int.reduceBEq]
      refine .done (hK _ ?_); clear hK K; simp only [thenQ, blockQ]
      refine AW.ret ?_
      simp only [blockQ, thenQ, bR, Nat.reduceEqDiff, reduceIte, Int.reduceBNe, Int.reduceBEq]
      simp [distR, hw]
    · cases h
  cases ba
  · refine AW.seq (AW.reg cd36_2 fun K hK => ?_)
    simp only [g36_2, bR, Nat.reduceEqDiff, reduceIte, Int.reduceBNe, Int.reduceBEq]
    refine .done (hK _ ?_); clear hK K; simp only [thenQ, blockQ]
    refine AW.ite ?_
    simp only [condQ, bR, Nat.reduceEqDiff, reduceIte, Int.reduceBNe, Int.reduceBEq]
    refine ⟨fun h => ?_, fun h => ?_⟩
    · refine AW.seq (AW.reg cd36_3 fun K hK => ?_)
      simp only [g36_3, bR, Nat.reduceEqDiff, reduceIte, Int.reduceBNe, Int.reduceBEq]
      refine .done (hK _ ?_); clear hK K; simp only [thenQ, blockQ]
      refine AW.ret ?_
      simp only [blockQ, thenQ, bR, Nat.reduceEqDiff, reduceIte, Int.reduceBNe, Int.reduceBEq]
      simp [distR, hw, ha]
    · cases h
  cases bb
  · refine AW.seq (AW.reg cd36_2 fun K hK => ?_)
    simp only [g36_2, bR, Nat.reduceEqDiff, reduceIte, Int.reduceBNe, Int.reduceBEq]
    refine .done (hK _ ?_); clear hK K; simp only [thenQ, blockQ]
    refine AW.ite ?_
    simp only [condQ, bR, Nat.reduceEqDiff, reduceIte, Int.reduceBNe, Int.reduceBEq]
    refine ⟨fun h => ?_, fun h => ?_⟩
    · refine AW.seq (AW.reg cd36_3 fun K hK => ?_)
      simp only [g36_3, bR, Nat.reduceEqDiff, reduceIte, Int.reduceBNe, Int.reduceBEq]
      refine .done (hK _ ?_); clear hK K; simp only [thenQ, blockQ]
      refine AW.ret ?_
      simp only [blockQ, thenQ, bR, Nat.reduceEqDiff, reduceIte, Int.reduceBNe, Int.reduceBEq]
      simp [distR, hw, ha, hb]
    · cases h
  refine AW.seq (AW.reg cd36_2 fun K hK => ?_)
  simp only [g36_2, bR, Nat.reduceEqDiff, reduceIte, Int.reduceBNe, Int.reduceBEq]
  refine .done (hK _ ?_); clear hK K; simp only [thenQ, blockQ]
  refine AW.ite ?_
  simp only [condQ, bR, Nat.reduceEqDiff, reduceIte, Int.reduceBNe, Int.reduceBEq]
  refine ⟨fun h => ?_, fun h => ?_⟩
  · cases h
  refine AW.skip ?_; simp only [thenQ, blockQ, reduceIte, Nat.reduceEqDiff]
  refine AW.seq (AW.reg cd36_4 fun K hK => ?_)
  simp only [g36_4, bR, Nat.reduceEqDiff, reduceIte, Int.reduceBNe, Int.reduceBEq]
  simp only [typR, useR, okR, e_fin, bR, Nat.reduceEqDiff, reduceIte, Int.reduceBNe, Int.reduceBEq]
  refine .flat _ (F87 w a b ha hb) rfl ?_
  simp only [bR, Nat.reduceEqDiff, reduceIte, Int.reduceBNe, Int.reduceBEq]
  refine .done (hK _ ?_); clear hK K; simp only [thenQ, blockQ]
  refine AW.ret ?_
  simp only [blockQ, thenQ, bR, Nat.reduceEqDiff, reduceIte, Int.reduceBNe, Int.reduceBEq]
  simp [distR, hw, ha, hb]
theorem F90 (m : Marks) (o : Int) : Ctr Try.prog 90 [enc m, enc o] (enc (askedOf m o)) := by
  refine Ctr.mk' Try.func90 ca90 cc90 cr90 (Nat.le_of_ble_eq_true rfl) (fun hwf W0 D0 E1 => ?_)
  simp only [c90, r90, idx, Nat.zero_add, Nat.reduceAdd]
  refine AW.seq (AW.reg cd90_0 fun K hK => ?_)
  simp only [g90_0, bR, Nat.reduceEqDiff, reduceIte, Int.reduceBNe, Int.reduceBEq]
  simp only [e_isVal, bR, Nat.reduceEqDiff, reduceIte, Int.reduceBNe, Int.reduceBEq]
  refine .done (hK _ ?_); clear hK K; simp only [thenQ, blockQ]
  refine AW.seq ?_
  refine AW.seq (AW.reg cd90_1 fun K hK => ?_)
  simp only [g90_1, bR, Nat.reduceEqDiff, reduceIte, Int.reduceBNe, Int.reduceBEq]
  simp only [typR, useR, okR, e_fin, bR, Nat.reduceEqDiff, reduceIte, Int.reduceBNe, Int.reduceBEq]
  refine .flat _ (F47 m) rfl ?_
  simp only [bR, Nat.reduceEqDiff, reduceIte, Int.reduceBNe, Int.reduceBEq]
  refine .done (hK _ ?_); clear hK K; simp only [thenQ, blockQ]
  generalize hw : okM m = bw
  cases bw
  · refine AW.seq (AW.reg cd90_2 fun K hK => ?_)
    simp only [g90_2, bR, Nat.reduceEqDiff, reduceIte, Int.reduceBNe, Int.reduceBEq]
    refine .done (hK _ ?_); clear hK K; simp only [thenQ, blockQ]
    refine AW.ite ?_
    simp only [condQ, bR, Nat.reduceEqDiff, reduceIte, Int.reduceBNe, Int.reduceBEq]
    refine ⟨fun h => ?_, fun h => ?_⟩
    · refine AW.seq (AW.reg cd90_3 fun K hK => ?_)
      simp only [g90_3, bR, Nat.reduceEqDiff, reduceIte, Int.reduceBNe, Int.reduceBEq]
      refine .done (hK _ ?_); clear hK K; simp only [thenQ, blockQ]
      refine AW.ret ?_
      simp only [blockQ, thenQ, bR, Nat.reduceEqDiff, reduceIte, Int.reduceBNe, Int.reduceBEq]
      simp [askedOf, hw]
    · cases h
  refine AW.seq (AW.reg cd90_2 fun K hK => ?_)
  simp only [g90_2, bR, Nat.reduceEqDiff, reduceIte, Int.reduceBNe, Int.reduceBEq]
  refine .done (hK _ ?_); clear hK K; simp only [thenQ, blockQ]
  refine AW.ite ?_
  simp only [condQ, bR, Nat.reduceEqDiff, reduceIte, Int.reduceBNe, Int.reduceBEq]
  refine ⟨fun h => ?_, fun h => ?_⟩
  · cases h
  refine AW.skip ?_; simp only [thenQ, blockQ, reduceIte, Nat.reduceEqDiff]
  refine AW.seq (AW.seq ?_)
  refine AW.reg cd90_4 fun K hK => ?_
  simp only [g90_4, bR, Nat.reduceEqDiff, reduceIte, Int.reduceBNe, Int.reduceBEq]
  refine .flat _ (F97 o) rfl ?_
  generalize ho : inR 1 99 o = bo
  cases bo
  · simp only [bR, Nat.reduceEqDiff, reduceIte, Int.reduceBNe, Int.reduceBEq]
    refine .done (hK _ ?_); clear hK K; simp only [thenQ, blockQ]
    refine AW.ite ?_
    simp only [condQ, bR, Nat.reduceEqDiff, reduceIte, Int.reduceBNe, Int.reduceBEq]
    refine ⟨fun h => ?_, fun h => ?_⟩
    · refine AW.seq (AW.reg cd90_5 fun K hK => ?_)
      simp only [g90_5, bR, Nat.reduceEqDiff, reduceIte, Int.reduceBNe, Int.reduceBEq]
      refine .done (hK _ ?_); clear hK K; simp only [thenQ, blockQ]
      refine AW.ret ?_
      simp only [blockQ, thenQ, bR, Nat.reduceEqDiff, reduceIte, Int.reduceBNe, Int.reduceBEq]
      simp [askedOf, hw, ho]
    · cases h
  simp only [bR, Nat.reduceEqDiff, reduceIte, Int.reduceBNe, Int.reduceBEq]
  refine .done (hK _ ?_); clear hK K; simp only [thenQ, blockQ]
  refine AW.ite ?_
  simp only [condQ, bR, Nat.reduceEqDiff, reduceIte, Int.reduceBNe, Int.reduceBEq]
  refine ⟨fun h => ?_, fun h => ?_⟩
  · cases h
  refine AW.skip ?_; simp only [thenQ, blockQ, reduceIte, Nat.reduceEqDiff]
  refine AW.seq (AW.reg cd90_6 fun K hK => ?_)
  simp only [g90_6, bR, Nat.reduceEqDiff, reduceIte, Int.reduceBNe, Int.reduceBEq]
  refine .done (hK _ ?_); clear hK K; simp only [thenQ, blockQ]
  refine AW.ret ?_
  simp only [blockQ, thenQ, bR, Nat.reduceEqDiff, reduceIte, Int.reduceBNe, Int.reduceBEq]
  simp [askedOf, hw, ho]
end Go.Proofs.Ytkjkbpgdpnapfaa

/-
  FUNCTIONS OF THE PACKAGE mark BY CONTRACT: BinarySearchFunc, find, MarkOf, owners, arePlaces.
-/
namespace Go.Proofs.Ytkjkbpgdpnapfaa
open Go Go.Abs
open Go.Abs.Enc (enc)
theorem F115 (g : Given) (o : Int) : Ctr Try.prog 115 [enc g, enc o] (enc (IntKind.i64.wrap (g.owner - o))) := by
  refine Ctr.mk' Try.func115 ca115 cc115 cr115 (Nat.le_of_ble_eq_true rfl) (fun hwf W0 D0 E1 => ?_)
  simp only [c115, r115, idx, Nat.zero_add, Nat.reduceAdd]
  refine AW.seq (AW.reg cd115_0 fun K hK => ?_)
  simp only [g115_0, bR, Nat.reduceEqDiff, reduceIte, Int.reduceBNe, Int.reduceBEq]
  simp only [e_isVal, bR, Nat.reduceEqDiff, reduceIte, Int.reduceBNe, Int.reduceBEq]
  refine .done (hK _ ?_); clear hK K; simp only [thenQ, blockQ]
  refine AW.seq (AW.reg cd115_1 fun K hK => ?_)
  simp only [g115_1, bR, Nat.reduceEqDiff, reduceIte, Int.reduceBNe, Int.reduceBEq]
  simp only [typR, useR, okR, bR, Nat.reduceEqDiff, reduceIte, Int.reduceBNe, Int.reduceBEq]
  refine .done (hK _ ?_); clear hK K; simp only [thenQ, blockQ]
  refine AW.ret ?_
  simp only [blockQ, thenQ, bR, Nat.reduceEqDiff, reduceIte, Int.reduceBNe, Int.reduceBEq]
theorem half_ok (i j : Nat) (h : i + j ≤ 2000) : IntKind.i64.wrap ((IntKind.u64.wrap (IntKind.i64.wrap ((i : Int) + (j : Int)))).fdiv (2 ^ (min (1 : Int).toNat IntKind.u64.bits))) = (((i + j) / 2 : Nat) : Int) := by
  have e0 : IntKind.i64.wrap ((i : Int) + (j : Int)) = (i : Int) + (j : Int) := wrap_id _ (by omega) (by omega)
  rw [e0]
  have e1 : IntKind.u64.wrap ((i : Int) + (j : Int)) = ((i + j : Nat) : Int) := by
    simp only [IntKind.wrap, IntKind.bits, IntKind.signed]
    simp
    omega
  have e2 : (2 ^ (min (1 : Int).toNat IntKind.u64.bits) : Int) = 2 := by decide
  rw [e1, e2, Int.fdiv_eq_ediv_of_nonneg _ (by omega)]
  have e3 : ((i + j : Nat) : Int) / 2 = (((i + j) / 2 : Nat) : Int) := by omega
  rw [e3]
  exact wrap_id _ (by omega) (by omega)
theorem F114 (l : List Given) (o : Int) (f : FuncId) (c : Given → Int) (hf : ∀ x ∈ l, Ctr Try.prog f [enc x, enc o] (enc (c x))) (hlen : l.length ≤ 1000) (k : Nat) (hk : k ≤ l.length) (h1 : ∀ (i : Nat) (h : i < l.length), i < k → c l[i] < 0) (h2 : ∀ (i : Nat) (h : i < l.length), k ≤ i → ¬ c l[i] < 0) :
    Ctr Try.prog 114 [enc l, enc o, .func f []] (.tuple [enc (k : Int), enc (if h : k < l.length then c l[k] == 0 else false)]) := by
  refine Ctr.mk' Try.func114 ca114 cc114 cr114 (Nat.le_of_ble_eq_true rfl) (fun hwf W0 D0 E1 => ?_)
  simp only [c114, r114, idx, Nat.zero_add, Nat.reduceAdd]
  refine AW.seq (AW.reg cd114_0 fun K hK => ?_)
  simp only [g114_0, bR, Nat.reduceEqDiff, reduceIte, Int.reduceBNe, Int.reduceBEq]
  refine .done (hK _ ?_); clear hK K; simp only [thenQ, blockQ]
  refine AW.seq (AW.reg cd114_1 fun K hK => ?_)
  simp only [g114_1, bR, Nat.reduceEqDiff, reduceIte, Int.reduceBNe, Int.reduceBEq]
  simp only [useR, bR, Nat.reduceEqDiff, reduceIte, Int.reduceBNe, Int.reduceBEq]
  refine .done (hK _ ?_); clear hK K; simp only [thenQ, blockQ]
  refine AW.seq (AW.reg cd114_2 fun K hK => ?_)
  simp only [g114_2, bR, Nat.reduceEqDiff, reduceIte, Int.reduceBNe, Int.reduceBEq]
  refine .done (hK _ ?_); clear hK K; simp only [thenQ, blockQ]
  refine AW.seq ?_
  refine AW.block (AW.loop (fun s : Nat × Nat => mkA [(0, enc l), (1, .int .i64 o), (2, .func f []), (8, .int .i64 l.length), (9, .int .i64 s.1), (10, .int .i64 s.2)] []) (fun s => s.1 ≤ k ∧ k ≤ s.2 ∧ s.2 ≤ l.length) (fun s => s.2 - s.1) (0, l.length) ⟨Nat.zero_le _, hk, Nat.le_refl _⟩ ?_ ?_)
  · refine Sub.of_lists ?_ ?_ ?_ ?_ <;> simp [subT, subO, onlyT, onlyO, isIn, look_cons, lookO_cons, lookO_nil, AV.only, AV.onlys, AO.only, onlys_map, onlys_append, e_only, e_int, e_bool]
  · rintro ⟨i, j⟩ ⟨hi, hj, hjl⟩
    simp only at hi hj hjl ⊢
    refine AW.seq (AW.seq ?_)
    refine AW.reg cd114_3 fun K hK => ?_
    simp only [g114_3, bR, Nat.reduceEqDiff, reduceIte, Int.reduceBNe, Int.reduceBEq]
    refine .done (hK _ ?_); clear hK K; simp only [thenQ, blockQ]
    refine AW.ite ?_
    simp only [condQ, bR, Nat.reduceEqDiff, reduceIte, Int.reduceBNe, Int.reduceBEq]
    refine ⟨fun h => ?_, fun h => ?_⟩
    · have hlt : i < j := by simpa using h
      refine AW.skip ?_; simp only [thenQ, blockQ, reduceIte, Nat.reduceEqDiff]
      refine AW.block ?_
      have hhl : (i + j) / 2 < l.length := by omega
      refine AW.seq (AW.reg cd114_4 fun K hK => ?_)
      simp only [g114_4, bR, Nat.reduceEqDiff, reduceIte, Int.reduceBNe, Int.reduceBEq]
      simp only [half_ok i j (by omega), Int.reduceLE, bR, Nat.reduceEqDiff, reduceIte, Int.reduceBNe, Int.reduceBEq]
      refine .done (hK _ ?_); clear hK K; simp only [thenQ, blockQ]
      refine AW.seq (AW.reg cd114_5 fun K hK => ?_)
      simp only [g114_5, bR, Nat.reduceEqDiff, reduceIte, Int.reduceBNe, Int.reduceBEq]
      simp only [isE_nat 7 hhl rfl, typR, okR, List.append_nil, e_fin, bR, Nat.reduceEqDiff, reduceIte, Int.reduceBNe, Int.reduceBEq]
      refine .flat _ (hf _ (List.getElem_mem hhl)) rfl ?_
      simp only [bR, Nat.reduceEqDiff, reduceIte, Int.reduceBNe, Int.reduceBEq]
      refine .done (hK _ ?_); clear hK K; simp only [thenQ, blockQ]
      refine AW.ite ?_
      simp only [condQ, bR, Nat.reduceEqDiff, reduceIte, Int.reduceBNe, Int.reduceBEq]
      refine ⟨fun h => ?_, fun h => ?_⟩
      · have hc : c l[(i + j) / 2] < 0 := by simpa using h
        have hlk : (i + j) / 2 < k := Nat.lt_of_not_le fun hle => h2 _ hhl hle hc
        refine AW.reg cd114_6 fun K hK => ?_
        simp only [g114_6, bR, Nat.reduceEqDiff, reduceIte, Int.reduceBNe, Int.reduceBEq]
        refine .done (hK _ ?_); clear hK K; simp only [thenQ, blockQ]
        refine ⟨((i + j) / 2 + 1, j), ⟨by simp only; omega, by simp only; omega, by simp only; omega⟩, by simp only; omega, ?_⟩
        rw [wrap_id _ (by omega) (by omega)]
        refine Sub.of_lists ?_ ?_ ?_ ?_ <;> simp [subT, subO, onlyT, onlyO, isIn, look_cons, lookO_cons, lookO_nil, AV.only, AV.onlys, AO.only, onlys_map, onlys_append, e_only, e_int, e_bool]
      · have hc : ¬ c l[(i + j) / 2] < 0 := by simpa using h
        have hkl : k ≤ (i + j) / 2 := Nat.le_of_not_lt fun hle => hc (h1 _ hhl hle)
        refine AW.reg cd114_7 fun K hK => ?_
        simp only [g114_7, bR, Nat.reduceEqDiff, reduceIte, Int.reduceBNe, Int.reduceBEq]
        refine .done (hK _ ?_); clear hK K; simp only [thenQ, blockQ]
        refine ⟨(i, (i + j) / 2), ⟨by simp only; omega, by simp only; omega, by simp only; omega⟩, by simp only; omega, ?_⟩
        refine Sub.of_lists ?_ ?_ ?_ ?_ <;> simp [subT, subO, onlyT, onlyO, isIn, look_cons, lookO_cons, lookO_nil, AV.only, AV.onlys, AO.only, onlys_map, onlys_append, e_only, e_int, e_bool]
    · have hge : ¬ i < j := by simpa using h
      have hik : i = k := by omega
      subst hik
      refine AW.exit ?_; simp only [thenQ, blockQ, reduceIte, Nat.reduceEqDiff]
      refine AW.seq (AW.reg cd114_8 fun K hK => ?_)
      simp only [g114_8, bR, Nat.reduceEqDiff, reduceIte, Int.reduceBNe, Int.reduceBEq]
      generalize hz : decide ((i : Int) < (l.length : Int)) = z
      cases z
      · have hz' : ¬ i < l.length := by simpa using hz
        simp only [bR, Nat.reduceEqDiff, reduceIte, Int.reduceBNe, Int.reduceBEq]
        refine .done (hK _ ?_); clear hK K; simp only [thenQ, blockQ]
        refine AW.ret ?_
        simp only [blockQ, thenQ, bR, Nat.reduceEqDiff, reduceIte, Int.reduceBNe, Int.reduceBEq]
        simp [hz']
      · have hz' : i < l.length := by simpa using hz
        simp only [isE_nat 7 hz' rfl, typR, okR, List.append_nil, e_fin, bR, Nat.reduceEqDiff, reduceIte, Int.reduceBNe, Int.reduceBEq]
        refine .flat _ (hf _ (List.getElem_mem hz')) rfl ?_
        simp only [bR, Nat.reduceEqDiff, reduceIte, Int.reduceBNe, Int.reduceBEq]
        refine .done (hK _ ?_); clear hK K; simp only [thenQ, blockQ]
        refine AW.ret ?_
        simp only [blockQ, thenQ, bR, Nat.reduceEqDiff, reduceIte, Int.reduceBNe, Int.reduceBEq]
        simp [hz']
/-- How many owners come ahead of one. -/
def posOf (l : List Given) (o : Int) : Nat := l.findIdx fun g => decide (o ≤ g.owner)
def foundAt (l : List Given) (o : Int) : Bool := if h : posOf l o < l.length then l[posOf l o].owner == o else false
def rising (l : List Given) : Prop := ∀ (i j : Nat) (hi : i < l.length) (hj : j < l.length), i < j → l[i].owner < l[j].owner
theorem posOf_lt {l : List Given} {o : Int} {i : Nat} (h : i < l.length) (hi : i < posOf l o) : l[i].owner < o := by
  have := List.not_of_lt_findIdx hi
  simpa using this
theorem posOf_ge {l : List Given} {o : Int} (hr : rising l) {i : Nat} (h : i < l.length) (hi : posOf l o ≤ i) : o ≤ l[i].owner := by
  have hp : posOf l o < l.length := by omega
  have h1 : o ≤ l[posOf l o].owner := by
    have : decide (o ≤ (l[posOf l o]'hp).owner) = true := @List.findIdx_getElem _ (fun g : Given => decide (o ≤ g.owner)) l hp
    simpa using this
  by_cases he : posOf l o = i
  · simp only [← he]; exact h1
  · have := hr _ i hp h (by omega)
    omega
theorem okM_rising {m : Marks} (h : okM m = true) : rising m.given := by
  simp only [okM, Bool.and_eq_true, List.all_eq_true, List.mem_range] at h
  have h1 : ∀ i, i + 1 < m.given.length → (gv m i).owner < (gv m (i + 1)).owner := fun i hi => by
    have := h.2.2.2 (i + 1) hi
    simp only [okAt, Bool.and_eq_true] at this
    simpa using this.2.2.1
  intro i j hi hj hij
  obtain ⟨d, rfl⟩ : ∃ d, j = i + 1 + d := ⟨j - (i + 1), by omega⟩
  induction d with
  | zero => rw [gv_eq hi, gv_eq hj]; exact h1 i hj
  | succ d ih =>
    have hj' : i + 1 + d < m.given.length := by omega
    have := ih hj' (by omega)
    rw [gv_eq hi, gv_eq hj'] at this
    rw [gv_eq hi, gv_eq hj]
    have h3 := h1 (i + 1 + d) hj
    have e : i + 1 + (d + 1) = i + 1 + d + 1 := by omega
    rw [e]; omega
theorem okM_owner {m : Marks} (h : okM m = true) {i : Nat} (hi : i < m.given.length) : 1 ≤ (gv m i).owner ∧ (gv m i).owner ≤ 99 := by
  simp only [okM, Bool.and_eq_true, List.all_eq_true, List.mem_range] at h
  have := h.2.2.2 i hi
  simp only [okAt, Bool.and_eq_true, inR, decide_eq_true_eq] at this
  exact this.1
theorem okM_len {m : Marks} (h : okM m = true) : m.given.length ≤ 40 := by
  simp only [okM, Bool.and_eq_true, decide_eq_true_eq] at h
  exact h.2.2.1
theorem okM_mark {m : Marks} (h : okM m = true) : ∀ g ∈ m.given, okMark g.mark = true := fun g hg => by
  simp only [okM, Bool.and_eq_true, List.all_eq_true, List.mem_range] at h
  obtain ⟨i, hi, rfl⟩ := List.getElem_of_mem hg
  rw [gv_eq hi]
  exact okAt_mark (h.2.2.2 i hi)
theorem F91 (m : Marks) (o : Int) (hm : okM m = true) (ho : 1 ≤ o ∧ o ≤ 99) : Ctr Try.prog 91 [enc m, enc o] (.tuple [enc (posOf m.given o : Int), enc (foundAt m.given o)]) := by
  have hlen := okM_len hm
  have hr := okM_rising hm
  have hw : ∀ (i : Nat) (h : i < m.given.length), IntKind.i64.wrap (m.given[i].owner - o) = m.given[i].owner - o := fun i h => by
    rw [gv_eq h]
    have := okM_owner hm h
    exact wrap_id _ (by omega) (by omega)
  refine Ctr.mk' Try.func91 ca91 cc91 cr91 (Nat.le_of_ble_eq_true rfl) (fun hwf W0 D0 E1 => ?_)
  simp only [c91, r91, idx, Nat.zero_add, Nat.reduceAdd]
  refine AW.seq (AW.reg cd91_0 fun K hK => ?_)
  simp only [g91_0, bR, Nat.reduceEqDiff, reduceIte, Int.reduceBNe, Int.reduceBEq]
  simp only [e_isVal, bR, Nat.reduceEqDiff, reduceIte, Int.reduceBNe, Int.reduceBEq]
  refine .done (hK _ ?_); clear hK K; simp only [thenQ, blockQ]
  refine AW.seq (AW.reg cd91_1 fun K hK => ?_)
  simp only [g91_1, bR, Nat.reduceEqDiff, reduceIte, Int.reduceBNe, Int.reduceBEq]
  simp only [typR, useR, okR, e_fin, bR, Nat.reduceEqDiff, reduceIte, Int.reduceBNe, Int.reduceBEq]
  refine .flat _ (F114 m.given o 115 (fun g => IntKind.i64.wrap (g.owner - o)) (fun x _ => F115 x o) (by omega) (posOf m.given o) List.findIdx_le_length (fun i h hi => ?_) (fun i h hi => ?_)) rfl ?_
  · simp only [hw i h]; have := posOf_lt h hi; omega
  · simp only [hw i h]; have := posOf_ge hr h hi; omega
  simp only [List.getElem?_cons_zero, List.getElem?_cons_succ, bR, Nat.reduceEqDiff, reduceIte, Int.reduceBNe, Int.reduceBEq]
  refine .done (hK _ ?_); clear hK K; simp only [thenQ, blockQ]
  refine AW.ret ?_
  simp only [blockQ, thenQ, bR, Nat.reduceEqDiff, reduceIte, Int.reduceBNe, Int.reduceBEq]
  have e : (if h : posOf m.given o < m.given.length then IntKind.i64.wrap (m.given[posOf m.given o].owner - o) == 0 else false) = foundAt m.given o := by
    simp only [foundAt]
    split
    · rename_i h
      rw [hw _ h, Bool.eq_iff_iff]
      simp
      omega
    · rfl
  simp [e]
theorem foundAt_index {m : Marks} {o : Int} (hm : okM m = true) : (foundAt m.given o = true → indexOf m.given o = posOf m.given o ∧ posOf m.given o < m.given.length) ∧ (foundAt m.given o = false → indexOf m.given o = -1) := by
  have hr := okM_rising hm
  constructor
  · intro h
    simp only [foundAt] at h
    split at h
    · rename_i hlt
      refine ⟨?_, hlt⟩
      have : m.given.findIdx? (fun g => g.owner == o) = some (posOf m.given o) := by
        rw [List.findIdx?_eq_some_iff_getElem]
        refine ⟨hlt, h, fun j hj => ?_⟩
        have := posOf_lt (l := m.given) (o := o) (i := j) (by omega) hj
        simp; omega
      simp [indexOf, this]
    · cases h
  · intro h
    have : m.given.findIdx? (fun g => g.owner == o) = none := by
      rw [List.findIdx?_eq_none_iff]
      intro g hg
      obtain ⟨j, hj, rfl⟩ := List.getElem_of_mem hg
      simp only [foundAt] at h
      by_cases hjp : j < posOf m.given o
      · have := posOf_lt hj hjp
        simp; omega
      · have hp : posOf m.given o < m.given.length := by omega
        rw [dif_pos hp] at h
        have h1 := posOf_ge (o := o) hr hp (Nat.le_refl _)
        by_cases he : posOf m.given o = j
        · simp only [← he]; exact h
        · have := hr _ j hp hj (by omega)
          simp; omega
    simp [indexOf, this]
theorem F39 (m : Marks) (o : Int) : Ctr Try.prog 39 [enc m, enc o] (.tuple [enc (markOf m o).1, enc (markOf m o).2]) := by
  refine Ctr.mk' Try.func39 ca39 cc39 cr39 (Nat.le_of_ble_eq_true rfl) (fun hwf W0 D0 E1 => ?_)
  simp only [c39, r39, idx, Nat.zero_add, Nat.reduceAdd]
  refine AW.seq (AW.reg cd39_0 fun K hK => ?_)
  simp only [g39_0, bR, Nat.reduceEqDiff, reduceIte, Int.reduceBNe, Int.reduceBEq]
  simp only [e_isVal, bR, Nat.reduceEqDiff, reduceIte, Int.reduceBNe, Int.reduceBEq]
  refine .done (hK _ ?_); clear hK K; simp only [thenQ, blockQ]
  refine AW.seq ?_
  refine AW.seq (AW.reg cd39_1 fun K hK => ?_)
  simp only [g39_1, bR, Nat.reduceEqDiff, reduceIte, Int.reduceBNe, Int.reduceBEq]
  simp only [typR, useR, okR, e_fin, bR, Nat.reduceEqDiff, reduceIte, Int.reduceBNe, Int.reduceBEq]
  refine .flat _ (F90 m o) rfl ?_
  generalize ha : askedOf m o = a
  simp only [bR, Nat.reduceEqDiff, reduceIte, Int.reduceBNe, Int.reduceBEq]
  refine .done (hK _ ?_); clear hK K; simp only [thenQ, blockQ]
  refine AW.seq (AW.reg cd39_2 fun K hK => ?_)
  simp only [g39_2, bR, Nat.reduceEqDiff, reduceIte, Int.reduceBNe, Int.reduceBEq]
  refine .done (hK _ ?_); clear hK K; simp only [thenQ, blockQ]
  refine AW.ite ?_
  simp only [condQ, bR, Nat.reduceEqDiff, reduceIte, Int.reduceBNe, Int.reduceBEq]
  refine ⟨fun h => ?_, fun h => ?_⟩
  · have h' : a ≠ 0 := by simpa using h
    refine AW.seq (AW.reg cd39_3 fun K hK => ?_)
    simp only [g39_3, bR, Nat.reduceEqDiff, reduceIte, Int.reduceBNe, Int.reduceBEq]
    simp only [setParts, List.map_nil, Option.map_some, bR, Nat.reduceEqDiff, reduceIte, Int.reduceBNe, Int.reduceBEq]
    simp only [e_zero6]
    rw [stR3_ok (e_isVal _) (by rw [e_okS]; rfl) rfl]
    simp only [bR, Nat.reduceEqDiff, reduceIte, Int.reduceBNe, Int.reduceBEq]
    refine .done (hK _ ?_); clear hK K; simp only [thenQ, blockQ]
    refine AW.ret ?_
    simp only [blockQ, thenQ, bR, Nat.reduceEqDiff, reduceIte, Int.reduceBNe, Int.reduceBEq]
    simp only [typR, e_fin, bR, Nat.reduceEqDiff, reduceIte, Int.reduceBNe, Int.reduceBEq]
    simp [markOf, ha, h']
  have h' : a = 0 := by simpa using h
  subst h'
  have hm : okM m = true := by
    simp only [askedOf] at ha
    split at ha
    · assumption
    · cases ha
  have ho : 1 ≤ o ∧ o ≤ 99 := by
    simp only [askedOf, hm, if_true] at ha
    split at ha
    · rename_i h1; simpa [inR] using h1
    · cases ha
  obtain ⟨f1, f2⟩ := foundAt_index (o := o) hm
  refine AW.skip ?_; simp only [thenQ, blockQ, reduceIte, Nat.reduceEqDiff]
  refine AW.seq (AW.reg cd39_4 fun K hK => ?_)
  simp only [g39_4, bR, Nat.reduceEqDiff, reduceIte, Int.reduceBNe, Int.reduceBEq]
  simp only [typR, useR, okR, e_fin, bR, Nat.reduceEqDiff, reduceIte, Int.reduceBNe, Int.reduceBEq]
  refine .flat _ (F91 m o hm ho) rfl ?_
  simp only [List.getElem?_cons_zero, List.getElem?_cons_succ, bR, Nat.reduceEqDiff, reduceIte, Int.reduceBNe, Int.reduceBEq]
  refine .done (hK _ ?_); clear hK K; simp only [thenQ, blockQ]
  refine AW.seq (AW.seq ?_)
  refine AW.reg cd39_5 fun K hK => ?_
  simp only [g39_5, bR, Nat.reduceEqDiff, reduceIte, Int.reduceBNe, Int.reduceBEq]
  refine .done (hK _ ?_); clear hK K; simp only [thenQ, blockQ]
  refine AW.ite ?_
  simp only [condQ, bR, Nat.reduceEqDiff, reduceIte, Int.reduceBNe, Int.reduceBEq]
  refine ⟨fun h => ?_, fun h => ?_⟩
  · have hf : foundAt m.given o = false := by simpa using h
    refine AW.seq (AW.reg cd39_6 fun K hK => ?_)
    simp only [g39_6, bR, Nat.reduceEqDiff, reduceIte, Int.reduceBNe, Int.reduceBEq]
    simp only [setParts, List.map_nil, Option.map_some, bR, Nat.reduceEqDiff, reduceIte, Int.reduceBNe, Int.reduceBEq]
    simp only [e_zero6]
    rw [stR3_ok (e_isVal _) (by rw [e_okS]; rfl) rfl]
    simp only [bR, Nat.reduceEqDiff, reduceIte, Int.reduceBNe, Int.reduceBEq]
    refine .done (hK _ ?_); clear hK K; simp only [thenQ, blockQ]
    refine AW.ret ?_
    simp only [blockQ, thenQ, bR, Nat.reduceEqDiff, reduceIte, Int.reduceBNe, Int.reduceBEq]
    simp only [typR, e_fin, bR, Nat.reduceEqDiff, reduceIte, Int.reduceBNe, Int.reduceBEq]
    simp [markOf, ha, f2 hf]
  · have hf : foundAt m.given o = true := by simpa using h
    obtain ⟨g1, g2⟩ := f1 hf
    refine AW.skip ?_; simp only [thenQ, blockQ, reduceIte, Nat.reduceEqDiff]
    refine AW.seq (AW.reg cd39_7 fun K hK => ?_)
    simp only [g39_7, bR, Nat.reduceEqDiff, reduceIte, Int.reduceBNe, Int.reduceBEq]
    simp only [typR, useR, okR, isE_gv g2, bR, Nat.reduceEqDiff, reduceIte, Int.reduceBNe, Int.reduceBEq]
    rw [stR3_ok (e_isVal _) (by rw [e_okS]; rfl) ((e_sh _).trans rfl)]
    simp only [bR, Nat.reduceEqDiff, reduceIte, Int.reduceBNe, Int.reduceBEq]
    refine .done (hK _ ?_); clear hK K; simp only [thenQ, blockQ]
    refine AW.ret ?_
    simp only [blockQ, thenQ, bR, Nat.reduceEqDiff, reduceIte, Int.reduceBNe, Int.reduceBEq]
    simp only [typR, e_fin, bR, Nat.reduceEqDiff, reduceIte, Int.reduceBNe, Int.reduceBEq]
    have : ¬ ((posOf m.given o : Int) < 0) := by omega
    simp [markOf, ha, g1, this]
end Go.Proofs.Ytkjkbpgdpnapfaa

/-
  FUNCTIONS OF mark BY CONTRACT: the iterator marks.
-/
namespace Go.Proofs.Ytkjkbpgdpnapfaa
open Go Go.Abs
open Go.Abs.Enc (enc)
/-- The digits of a number in base five, six places. -/
def dg (k : Nat) : Nat → Int
  | 0 => ((k / 5 / 5 / 5 / 5 / 5 % 5 : Nat) : Int)
  | 1 => ((k / 5 / 5 / 5 / 5 % 5 : Nat) : Int)
  | 2 => ((k / 5 / 5 / 5 % 5 : Nat) : Int)
  | 3 => ((k / 5 / 5 % 5 : Nat) : Int)
  | 4 => ((k / 5 % 5 : Nat) : Int)
  | 5 => ((k % 5 : Nat) : Int)
  | _ => 0
def dgs (k : Nat) : Arr 6 Int := ⟨[dg k 0, dg k 1, dg k 2, dg k 3, dg k 4, dg k 5], rfl⟩
/-- The places behind i are nought. -/
def carry (k : Nat) : Nat → Arr 6 Int
  | 0 => ⟨[dg k 0, 0, 0, 0, 0, 0], rfl⟩
  | 1 => ⟨[dg k 0, dg k 1, 0, 0, 0, 0], rfl⟩
  | 2 => ⟨[dg k 0, dg k 1, dg k 2, 0, 0, 0], rfl⟩
  | 3 => ⟨[dg k 0, dg k 1, dg k 2, dg k 3, 0, 0], rfl⟩
  | 4 => ⟨[dg k 0, dg k 1, dg k 2, dg k 3, dg k 4, 0], rfl⟩
  | _ => dgs k
def fours : Arr 6 Int := ⟨[4, 4, 4, 4, 4, 4], rfl⟩
def upto : Nat → Arr 6 Int
  | 0 => zero6
  | i + 1 => upd (upto i) i 4
theorem upto6 : upto 6 = fours := rfl
theorem dgs0 : dgs 0 = zero6 := rfl
theorem dg_in (k i : Nat) : 0 ≤ dg k i ∧ dg k i ≤ 4 := by
  unfold dg; split <;> omega
theorem carry_g (k : Nat) : ∀ i, i < 6 → (carry k i).g i = dg k i
  | 0, _ | 1, _ | 2, _ | 3, _ | 4, _ | 5, _ => rfl
  | n + 6, h => absurd h (by omega)
theorem carry_down (k : Nat) : ∀ i, i + 1 < 6 → upd (carry k (i + 1)) (i + 1) 0 = carry k i
  | 0, _ | 1, _ | 2, _ | 3, _ | 4, _ => rfl
  | n + 5, h => absurd h (by omega)
theorem arr_ext {n : Nat} {x y : Arr n Int} (h : x.l = y.l) : x = y := by
  cases x; cases y; simp only at h; subst h; rfl
theorem carry_up (k : Nat) (hk : k < 15625) : ∀ i, i < 6 → (∀ j, i < j → j < 6 → dg k j = 4) → dg k i ≠ 4 → upd (carry k i) i (dg k i + 1) = dgs (k + 1)
  | 0, _, hj, hi => by
    have h1 := hj 1 (by decide) (by decide); have h2 := hj 2 (by decide) (by decide); have h3 := hj 3 (by decide) (by decide); have h4 := hj 4 (by decide) (by decide); have h5 := hj 5 (by decide) (by decide)
    refine arr_ext ?_
    simp only [upd, carry, dgs, dg, List.set_cons_zero, List.set_cons_succ] at *
    simp only [List.cons.injEq, and_true]
    omega
  | 1, _, hj, hi => by
    have h2 := hj 2 (by decide) (by decide); have h3 := hj 3 (by decide) (by decide); have h4 := hj 4 (by decide) (by decide); have h5 := hj 5 (by decide) (by decide)
    refine arr_ext ?_
    simp only [upd, carry, dgs, dg, List.set_cons_zero, List.set_cons_succ] at *
    simp only [List.cons.injEq, and_true]
    omega
  | 2, _, hj, hi => by
    have h3 := hj 3 (by decide) (by decide); have h4 := hj 4 (by decide) (by decide); have h5 := hj 5 (by decide) (by decide)
    refine arr_ext ?_
    simp only [upd, carry, dgs, dg, List.set_cons_zero, List.set_cons_succ] at *
    simp only [List.cons.injEq, and_true]
    omega
  | 3, _, hj, hi => by
    have h4 := hj 4 (by decide) (by decide); have h5 := hj 5 (by decide) (by decide)
    refine arr_ext ?_
    simp only [upd, carry, dgs, dg, List.set_cons_zero, List.set_cons_succ] at *
    simp only [List.cons.injEq, and_true]
    omega
  | 4, _, hj, hi => by
    have h5 := hj 5 (by decide) (by decide)
    refine arr_ext ?_
    simp only [upd, carry, dgs, dg, List.set_cons_zero, List.set_cons_succ] at *
    simp only [List.cons.injEq, and_true]
    omega
  | 5, _, hj, hi => by
    refine arr_ext ?_
    simp only [upd, carry, dgs, dg, List.set_cons_zero, List.set_cons_succ] at *
    simp only [List.cons.injEq, and_true]
    omega
  | n + 6, h, _, _ => absurd h (by omega)
theorem dgs_fours (k : Nat) (hk : k < 15625) : (dgs k).l = fours.l ↔ k = 15624 := by
  simp only [dgs, dg, fours, List.cons.injEq, and_true]
  omega
theorem dg_fours (k : Nat) (hk : k < 15625) (h : ∀ j, j < 6 → dg k j = 4) : k = 15624 := by
  have h0 := h 0 (by decide); have h1 := h 1 (by decide); have h2 := h 2 (by decide); have h3 := h 3 (by decide); have h4 := h 4 (by decide); have h5 := h 5 (by decide)
  simp only [dg] at *
  omega
end Go.Proofs.Ytkjkbpgdpnapfaa

/-
  FUNCTIONS OF mark BY CONTRACT: the iterator marks, its walk.
-/
namespace Go.Proofs.Ytkjkbpgdpnapfaa
open Go Go.Abs
open Go.Abs.Enc (enc)
theorem own23 {a b : AO} : ∀ m, isIn [(2, a), (3, b)] m = true → m < 1000000 := fun m h => by
  simp only [isIn, lookO] at h
  split at h
  · omega
  · split at h
    · omega
    · simp at h
theorem heldG {os os2 ow : List (Nat × AO)} {ts : List (Nat × AV)} (h : GoodO os os2) (how : ∀ m, isIn ow m = true → m < 1000000) : ∀ n x, lookO os2 n = some x → (mkA ts (ow ++ os2)).o n = some x ∧ x.only (isIn os2) = true ∧ x.fix = true := fun n x hx => by
  have hn : isIn os2 n = true := by simp [isIn, hx]
  have hg := h.great n (by rw [← h.same]; exact hn)
  refine ⟨?_, h.ok n x hx⟩
  simp only [mkA, lookO_app]
  cases hw : lookO ow n with
  | none => exact hx
  | some y => have := how n (by simp [isIn, hw]); omega
theorem F121 : Iter Try.prog 121 [] 15625 (fun k => [enc (dgs k)]) := by
  intro Y v I Ix os hv hY hI hIx h0
  have hG := hI 0 os h0
  refine CtrY.mk' Try.func121 ca121 cc121 cr121 (Nat.le_of_ble_eq_true rfl) (Nat.le_of_ble_eq_true rfl) hG.great (fun hwf W0 D0 E1 => ?_)
  simp only [c121, r121, idx, Nat.zero_add, Nat.reduceAdd]
  have n2 := hG.none (n := 2) (by decide)
  have n3 := hG.none (n := 3) (by decide)
  refine AW.seq (AW.reg cd121_0 fun K hK => ?_)
  simp only [g121_0, bR, Nat.reduceEqDiff, reduceIte, Int.reduceBNe, Int.reduceBEq]
  simp only [n2, n3, e_zero6, bR, Nat.reduceEqDiff, reduceIte, Int.reduceBNe, Int.reduceBEq]
  refine .done (hK _ ?_); clear hK K; simp only [thenQ, blockQ]
  refine AW.seq ?_
  refine AW.seq (AW.reg cd121_1 fun K hK => ?_)
  simp only [g121_1, bR, Nat.reduceEqDiff, reduceIte, Int.reduceBNe, Int.reduceBEq]
  refine .done (hK _ ?_); clear hK K; simp only [thenQ, blockQ]
  refine AW.block (AW.loop (fun i : Nat => mkA [(0, .raw v), (2, .ptr 2 []), (3, .ptr 3 []), (6, .int .i64 i)] ((2, .box (enc zero6)) :: (3, .box (enc (upto i))) :: os)) (fun i => i ≤ 6) (fun i => 6 - i) 0 (by omega) ?_ (fun i hi => ?_))
  · refine Sub.slots ?_ (fun n => ?_)
    · simp [subT, look_cons]
    · simp only [lookO_cons, upto]; (repeat' split) <;> simp_all
  refine AW.seq (AW.reg cd121_2 fun K hK => ?_)
  simp only [g121_2, bR, Nat.reduceEqDiff, reduceIte, Int.reduceBNe, Int.reduceBEq]
  refine .done (hK _ ?_); clear hK K; simp only [thenQ, blockQ]
  refine AW.seq ?_
  refine AW.ite ?_
  simp only [condQ, bR, Nat.reduceEqDiff, reduceIte, Int.reduceBNe, Int.reduceBEq]
  refine ⟨fun h => ?_, fun h => ?_⟩
  · have hlt : i < 6 := by simp at h; omega
    refine AW.skip ?_; simp only [thenQ, blockQ, reduceIte, Nat.reduceEqDiff]
    refine AW.seq (AW.block ?_)
    refine AW.seq (AW.reg cd121_3 fun K hK => ?_)
    simp only [g121_3, bR, Nat.reduceEqDiff, reduceIte, Int.reduceBNe, Int.reduceBEq]
    refine .done (hK _ ?_); clear hK K; simp only [thenQ, blockQ]
    refine AW.reg cd121_4 fun K hK => ?_
    simp only [g121_4, bR, Nat.reduceEqDiff, reduceIte, Int.reduceBNe, Int.reduceBEq]
    simp only [typR, useR, okR, inB_int 1 (upto i) (show (0 : Int) ≤ i ∧ (i : Int) < (6 : Nat) by omega) rfl, atL_g (upto i) hlt, stR3_g (upto i) hlt, bR, Nat.reduceEqDiff, reduceIte, Int.reduceBNe, Int.reduceBEq]
    refine .done (hK _ ?_); clear hK K; simp only [thenQ, blockQ]
    refine AW.reg cd121_5 fun K hK => ?_
    simp only [g121_5, bR, Nat.reduceEqDiff, reduceIte, Int.reduceBNe, Int.reduceBEq]
    refine .done (hK _ ?_); clear hK K; simp only [thenQ, blockQ]
    refine ⟨i + 1, by omega, by omega, ?_⟩
    rw [wrap_id _ (by omega) (by omega)]
    refine Sub.slots ?_ (fun n => ?_)
    · simp [subT, look_cons]
    · simp only [lookO_cons, upto]; (repeat' split) <;> simp_all
  have h6 : i = 6 := by simp at h; omega
  subst h6
  rw [upto6]
  refine AW.exit ?_; simp only [thenQ, blockQ, reduceIte, Nat.reduceEqDiff]
  -- the marks, one after the other
  refine AW.block (AW.loop (fun s : Nat × List (Nat × AO) => mkA [(0, .raw v), (2, .ptr 2 []), (3, .ptr 3 [])] ((2, .box (enc (dgs s.1))) :: (3, .box (enc fours)) :: s.2)) (fun s => s.1 < 15625 ∧ I s.1 s.2) (fun s => 15625 - s.1) (0, os) ⟨by simp only; omega, h0⟩ ?_ ?_)
  · simp only [dgs0]
    refine Sub.slots ?_ (fun n => rfl)
    simp [subT, look_cons]
  rintro ⟨k, osk⟩ ⟨hk, hIk⟩
  simp only at hk hIk ⊢
  have gk := hI k osk hIk
  refine AW.seq (AW.seq ?_)
  refine AW.reg cd121_6 fun K hK => ?_
  simp only [g121_6, bR, Nat.reduceEqDiff, reduceIte, Int.reduceBNe, Int.reduceBEq]
  simp only [typR, useR, okR, callvR_raw, bR, Nat.reduceEqDiff, reduceIte, Int.reduceBNe, Int.reduceBEq]
  refine WP.yields (ow := [(2, _), (3, _)]) (In := I (k + 1)) (Ix := Ix) (hY k osk _ hk hIk (fun r os2 h => h)) gk (hI _) hIx (by simp [AV.closeds, e_closed]) own23 (fun os2 h2 => ?_) (fun os2 h2 => ?_)
  · have g2 := hI _ os2 h2
    simp only [List.cons_append, List.nil_append]
    simp only [typR, useR, okR, eqE_arr, bR, Nat.reduceEqDiff, reduceIte, Int.reduceBNe, Int.reduceBEq]
    refine .done (hK _ ?_); clear hK K; simp only [thenQ, blockQ]
    refine AW.ite ?_
    simp only [condQ, bR, Nat.reduceEqDiff, reduceIte, Int.reduceBNe, Int.reduceBEq]
    refine ⟨fun h => ?_, fun h => ?_⟩
    · have hne : k ≠ 15624 := fun e => by simp [(dgs_fours k hk).2 e] at h
      refine AW.skip ?_; simp only [thenQ, blockQ, reduceIte, Nat.reduceEqDiff]
      refine AW.block ?_
      refine AW.seq (AW.reg cd121_7 fun K hK => ?_)
      simp only [g121_7, bR, Nat.reduceEqDiff, reduceIte, Int.reduceBNe, Int.reduceBEq]
      refine .done (hK _ ?_); clear hK K; simp only [thenQ, blockQ]
      refine AW.seq (AW.block (AW.loop (fun i : Nat => mkA [(0, .raw v), (2, .ptr 2 []), (3, .ptr 3 []), (5, .int .i64 i)] ((2, .box (enc (carry k i))) :: (3, .box (enc fours)) :: os2)) (fun i => i < 6 ∧ ∀ j, i < j → j < 6 → dg k j = 4) (fun i => i) 5 ⟨by decide, fun j h1 h2 => by omega⟩ ?_ ?_))
      · refine Sub.slots ?_ (fun n => ?_)
        · simp [subT, look_cons]
        · simp only [lookO_cons]; (repeat' split) <;> simp_all [carry]
      rintro i ⟨hi, hj⟩
      refine AW.seq (AW.seq ?_)
      refine AW.reg cd121_8 fun K hK => ?_
      simp only [g121_8, bR, Nat.reduceEqDiff, reduceIte, Int.reduceBNe, Int.reduceBEq]
      simp only [typR, useR, okR, inB_int 1 (carry k i) (show (0 : Int) ≤ i ∧ (i : Int) < (6 : Nat) by omega) rfl, atL_g (carry k i) hi, carry_g k i hi, bR, Nat.reduceEqDiff, reduceIte, Int.reduceBNe, Int.reduceBEq]
      refine .done (hK _ ?_); clear hK K; simp only [thenQ, blockQ]
      refine AW.ite ?_
      simp only [condQ, bR, Nat.reduceEqDiff, reduceIte, Int.reduceBNe, Int.reduceBEq]
      refine ⟨fun h => ?_, fun h => ?_⟩
      · have h4 : dg k i = 4 := by simpa using h
        have hi0 : i ≠ 0 := fun e => by
          subst e
          exact hne (dg_fours k hk fun j hj6 => by
            rcases Nat.eq_zero_or_pos j with e | e
            · subst e; exact h4
            · exact hj j e hj6)
        obtain ⟨i', rfl⟩ : ∃ i', i = i' + 1 := ⟨i - 1, by omega⟩
        refine AW.skip ?_; simp only [thenQ, blockQ, reduceIte, Nat.reduceEqDiff]
        refine AW.block ?_
        refine AW.seq (AW.reg cd121_9 fun K hK => ?_)
        simp only [g121_9, bR, Nat.reduceEqDiff, reduceIte, Int.reduceBNe, Int.reduceBEq]
        simp only [typR, useR, okR, inB_int 1 (carry k (i' + 1)) (show (0 : Int) ≤ ((i' + 1 : Nat) : Int) ∧ ((i' + 1 : Nat) : Int) < (6 : Nat) by omega) rfl, atL_g (carry k (i' + 1)) hi, stR3_g (carry k (i' + 1)) hi, carry_down k i' hi, bR, Nat.reduceEqDiff, reduceIte, Int.reduceBNe, Int.reduceBEq]
        refine .done (hK _ ?_); clear hK K; simp only [thenQ, blockQ]
        refine AW.reg cd121_10 fun K hK => ?_
        simp only [g121_10, bR, Nat.reduceEqDiff, reduceIte, Int.reduceBNe, Int.reduceBEq]
        refine .done (hK _ ?_); clear hK K; simp only [thenQ, blockQ]
        refine ⟨i', ⟨by omega, fun j h1 h2 => ?_⟩, by omega, ?_⟩
        · rcases Nat.lt_or_ge (i' + 1) j with h5 | h5
          · exact hj j h5 h2
          · have : j = i' + 1 := by omega
            subst this; exact h4
        · rw [wrap_id _ (by omega) (by omega)]
          have e2 : (((i' + 1 : Nat) : Int) - 1) = (i' : Int) := by omega
          rw [e2]
          refine Sub.slots ?_ (fun n => ?_)
          · simp [subT, look_cons]
          · simp only [lookO_cons]; (repeat' split) <;> simp_all
      · have h4 : dg k i ≠ 4 := by simpa using h
        have hd := dg_in k i
        refine AW.exit ?_; simp only [thenQ, blockQ, reduceIte, Nat.reduceEqDiff]
        refine AW.reg cd121_11 fun K hK => ?_
        simp only [g121_11, bR, Nat.reduceEqDiff, reduceIte, Int.reduceBNe, Int.reduceBEq]
        simp only [typR, useR, okR, inB_int 1 (carry k i) (show (0 : Int) ≤ i ∧ (i : Int) < (6 : Nat) by omega) rfl, atL_g (carry k i) hi, carry_g k i hi, stR3_g (carry k i) hi, bR, Nat.reduceEqDiff, reduceIte, Int.reduceBNe, Int.reduceBEq]
        refine .done (hK _ ?_); clear hK K; simp only [thenQ, blockQ]
        refine ⟨(k + 1, os2), ⟨by simp only; omega, h2⟩, by simp only; omega, ?_⟩
        simp only
        rw [wrap_id _ (by omega) (by omega), carry_up k hk i hi hj h4]
        refine Sub.slots ?_ (fun n => ?_)
        · simp [subT, look_cons]
        · simp only [lookO_cons]; (repeat' split) <;> simp_all
    · have he : k = 15624 := by
        refine (dgs_fours k hk).1 ?_
        simpa using h
      subst he
      refine AW.exit ?_; simp only [thenQ, blockQ, reduceIte, Nat.reduceEqDiff]
      rw [retO_normal]
      exact ⟨os2, [], heldG (ow := [(2, _), (3, _)]) g2 own23, trivial, rfl, .inl h2⟩
  · have g2 := hIx os2 h2
    simp only [List.cons_append, List.nil_append]
    simp only [typR, useR, okR, bR, Nat.reduceEqDiff, reduceIte, Int.reduceBNe, Int.reduceBEq]
    refine .done (hK _ ?_); clear hK K; simp only [thenQ, blockQ]
    refine AW.ite ?_
    simp only [condQ, bR, Nat.reduceEqDiff, reduceIte, Int.reduceBNe, Int.reduceBEq]
    refine ⟨fun h => ?_, fun h => ?_⟩
    · cases h
    refine AW.exit ?_; simp only [thenQ, blockQ, reduceIte, Nat.reduceEqDiff]
    rw [retO_normal]
    exact ⟨os2, [], heldG (ow := [(2, _), (3, _)]) g2 own23, trivial, rfl, .inr h2⟩
theorem F101 : Ctr Try.prog 101 [] (.func 121 []) := by
  refine Ctr.mk' Try.func101 ca101 cc101 cr101 (Nat.le_of_ble_eq_true rfl) (fun hwf W0 D0 E1 => ?_)
  simp only [c101, r101, idx, Nat.zero_add, Nat.reduceAdd]
  refine AW.seq (AW.reg cd101_0 fun K hK => ?_)
  simp only [g101_0, bR, Nat.reduceEqDiff, reduceIte, Int.reduceBNe, Int.reduceBEq]
  refine .done (hK _ ?_); clear hK K; simp only [thenQ, blockQ]
  refine AW.seq (AW.reg cd101_1 fun K hK => ?_)
  simp only [g101_1, bR, Nat.reduceEqDiff, reduceIte, Int.reduceBNe, Int.reduceBEq]
  refine .done (hK _ ?_); clear hK K; simp only [thenQ, blockQ]
  refine AW.ret ?_
  simp only [blockQ, thenQ, bR, Nat.reduceEqDiff, reduceIte, Int.reduceBNe, Int.reduceBEq]
end Go.Proofs.Ytkjkbpgdpnapfaa

/-
  FUNCTIONS OF mark BY CONTRACT: Next.
-/
namespace Go.Proofs.Ytkjkbpgdpnapfaa
open Go Go.Abs
open Go.Abs.Enc (enc)
def blocked (m : Marks) (k : Arr 6 Int) : Bool := m.given.any fun g => tooNear m g.mark k
def nextK (m : Marks) : Option Nat := (List.range 15625).find? fun k => !blocked m (dgs k)
def nextOf (m : Marks) : Arr 6 Int × Int := if okM m then (if m.given.length = 40 then (zero6, 16) else match nextK m with
  | some k => (dgs k, 0)
  | none => (zero6, 16)) else (zero6, 13)
theorem find_range (p : Nat → Bool) {n k : Nat} (hk : k < n) (h1 : p k = true) (h2 : ∀ j, j < k → p j = false) : (List.range n).find? p = some k := by
  rw [List.find?_range_eq_some]
  exact ⟨h1, by simpa using hk, fun j hj => by simp [h2 j hj]⟩
theorem find_range_none (p : Nat → Bool) {n : Nat} (h : ∀ k, k < n → p k = false) : (List.range n).find? p = none := by
  rw [List.find?_eq_none]
  intro k hk
  simp [h k (by simpa using hk)]
theorem okMark_dgs (k : Nat) : okMark (dgs k) = true := by
  simp only [okMark, List.all_eq_true, List.mem_range]
  intro i hi
  have : (dgs k).g i = dg k i := by
    match i, hi with
    | 0, _ | 1, _ | 2, _ | 3, _ | 4, _ | 5, _ => rfl
    | n + 6, h => exact absurd h (by omega)
  rw [this]
  have := dg_in k i
  simp [inR, this.1, this.2]
def nx (m : Marks) (r : Arr 6 Int) (e : Int) : List (Nat × AO) := [(1000001, .box (enc m)), (1000002, .box (enc r)), (1000003, .box (.int .i64 e))]
theorem nx_good (m : Marks) (r : Arr 6 Int) (e : Int) (m' : Marks) (r' : Arr 6 Int) (e' : Int) : GoodO (nx m r e) (nx m' r' e') := by
  refine ⟨fun n => by simp only [nx, isIn, lookO]; (repeat' split) <;> rfl, fun n x h => ?_, fun n h => ?_⟩
  · simp only [nx, lookO] at h
    repeat' split at h
    all_goals first | (cases h; done) | (simp only [Option.some.injEq] at h; subst h; exact ⟨by simp [AO.only, e_only, AV.only], rfl⟩)
  · simp only [nx, isIn, lookO] at h
    repeat' split at h
    all_goals first | omega | (simp at h; done)
theorem stR3_i {A : AState} {n : Nat} {b : AV} {v u : Int} {rest : List G} : stR3 A none n [] b (.int .i64 v) rest (some (.int .i64 u)) = aops rest (A.setO n (.box (.int .i64 v))) := by
  rw [stR3_ok (s := none) (v := .int .i64 v) (old := .int .i64 u) rfl rfl rfl, setAt_nil]
theorem stR3_6 {A : AState} {n : Nat} {b : AV} {v u : Arr 6 Int} {rest : List G} : stR3 A (some 6) n [] b (enc v) rest (some (enc u)) = aops rest (A.setO n (.box (enc v))) := by
  rw [stR3_ok (e_isVal _) (by rw [e_okS]; rfl) ((e_sh _).trans (e_sh _).symm), setAt_nil]
theorem stR3_G {A : AState} {n : Nat} {b : AV} {v u : Given} {rest : List G} : stR3 A (some 7) n [] b (enc v) rest (some (enc u)) = aops rest (A.setO n (.box (enc v))) := by
  rw [stR3_ok (e_isVal _) (by rw [e_okS]; rfl) ((e_sh _).trans (e_sh _).symm), setAt_nil]
theorem blocked_at {m : Marks} {k : Arr 6 Int} {i : Nat} (hi : i < m.given.length) (h : tooNear m (gv m i).mark k = true) : blocked m k = true := by
  simp only [blocked, List.any_eq_true]
  exact ⟨m.given[i], List.getElem_mem hi, by rw [gv_eq hi]; exact h⟩
theorem blocked_no {m : Marks} {k : Arr 6 Int} (h : ∀ i, i < m.given.length → tooNear m (gv m i).mark k = false) : blocked m k = false := by
  rw [blocked, List.any_eq_false]
  intro g hg
  obtain ⟨i, hi, rfl⟩ := List.getElem_of_mem hg
  rw [gv_eq hi, h i hi]; simp
theorem F55 (m : Marks) : Ctr Try.prog 55 [enc m] (.tuple [enc (nextOf m).1, enc (nextOf m).2]) := by
  refine Ctr.mk' Try.func55 ca55 cc55 cr55 (Nat.le_of_ble_eq_true rfl) (fun hwf W0 D0 E1 => ?_)
  simp only [c55, r55, idx, Nat.zero_add, Nat.reduceAdd]
  refine AW.seq (AW.reg cd55_0 fun K hK => ?_)
  simp only [g55_0, bR, Nat.reduceEqDiff, reduceIte, Int.reduceBNe, Int.reduceBEq]
  simp only [e_zero6, bR, Nat.reduceEqDiff, reduceIte, Int.reduceBNe, Int.reduceBEq]
  refine .done (hK _ ?_); clear hK K; simp only [thenQ, blockQ]
  refine AW.scope ?_
  refine AW.seq ?_
  refine AW.seq (AW.reg cd55_1 fun K hK => ?_)
  simp only [g55_1, bR, Nat.reduceEqDiff, reduceIte, Int.reduceBNe, Int.reduceBEq]
  simp only [typR, useR, okR, e_fin, bR, Nat.reduceEqDiff, reduceIte, Int.reduceBNe, Int.reduceBEq]
  refine .flat _ (F47 m) rfl ?_
  generalize hm : okM m = bm
  cases bm
  · try simp only [typR, useR, okR, e_fin, bR, Nat.reduceEqDiff, reduceIte, Int.reduceBNe, Int.reduceBEq]
    refine .done (hK _ ?_); clear hK K; simp only [thenQ, blockQ]
    refine AW.seq (AW.reg cd55_2 fun K hK => ?_)
    simp only [g55_2, bR, Nat.reduceEqDiff, reduceIte, Int.reduceBNe, Int.reduceBEq]
    refine .done (hK _ ?_); clear hK K; simp only [thenQ, blockQ]
    refine AW.ite ?_
    simp only [condQ, bR, Nat.reduceEqDiff, reduceIte, Int.reduceBNe, Int.reduceBEq]
    refine ⟨fun h => ?_, fun h => ?_⟩
    · refine AW.seq (AW.reg cd55_3 fun K hK => ?_)
      simp only [g55_3, bR, Nat.reduceEqDiff, reduceIte, Int.reduceBNe, Int.reduceBEq]
      simp only [setParts, e_zero6, bR, Nat.reduceEqDiff, reduceIte, Int.reduceBNe, Int.reduceBEq]
      simp only [stR3_6, stR3_i, bR, Nat.reduceEqDiff, reduceIte, Int.reduceBNe, Int.reduceBEq]
      refine .done (hK _ ?_); clear hK K; simp only [thenQ, blockQ]
      refine AW.ret ?_
      simp only [scopeQ, thenQ, blockQ, typR, e_fin, setAt_nil, e_int, bR, Nat.reduceEqDiff, reduceIte, Int.reduceBNe, Int.reduceBEq]
      simp [nextOf, hm, e_int]
    · cases h
  try simp only [typR, useR, okR, e_fin, bR, Nat.reduceEqDiff, reduceIte, Int.reduceBNe, Int.reduceBEq]
  refine .done (hK _ ?_); clear hK K; simp only [thenQ, blockQ]
  refine AW.seq (AW.reg cd55_2 fun K hK => ?_)
  simp only [g55_2, bR, Nat.reduceEqDiff, reduceIte, Int.reduceBNe, Int.reduceBEq]
  refine .done (hK _ ?_); clear hK K; simp only [thenQ, blockQ]
  refine AW.ite ?_
  simp only [condQ, bR, Nat.reduceEqDiff, reduceIte, Int.reduceBNe, Int.reduceBEq]
  refine ⟨fun h => ?_, fun h => ?_⟩
  · cases h
  refine AW.skip ?_; simp only [thenQ, blockQ, reduceIte, Nat.reduceEqDiff]
  refine AW.seq ?_
  refine AW.seq (AW.reg cd55_4 fun K hK => ?_)
  simp only [g55_4, bR, Nat.reduceEqDiff, reduceIte, Int.reduceBNe, Int.reduceBEq]
  try simp only [typR, useR, okR, e_fin, bR, Nat.reduceEqDiff, reduceIte, Int.reduceBNe, Int.reduceBEq]
  refine .done (hK _ ?_); clear hK K; simp only [thenQ, blockQ]
  refine AW.ite ?_
  simp only [condQ, bR, Nat.reduceEqDiff, reduceIte, Int.reduceBNe, Int.reduceBEq]
  refine ⟨fun h => ?_, fun h => ?_⟩
  · have h40 : m.given.length = 40 := by simp at h; omega
    refine AW.seq (AW.reg cd55_5 fun K hK => ?_)
    simp only [g55_5, bR, Nat.reduceEqDiff, reduceIte, Int.reduceBNe, Int.reduceBEq]
    simp only [setParts, e_zero6, bR, Nat.reduceEqDiff, reduceIte, Int.reduceBNe, Int.reduceBEq]
    simp only [stR3_6, stR3_i, bR, Nat.reduceEqDiff, reduceIte, Int.reduceBNe, Int.reduceBEq]
    refine .done (hK _ ?_); clear hK K; simp only [thenQ, blockQ]
    refine AW.ret ?_
    simp only [scopeQ, thenQ, blockQ, typR, e_fin, setAt_nil, e_int, bR, Nat.reduceEqDiff, reduceIte, Int.reduceBNe, Int.reduceBEq]
    simp [nextOf, hm, h40, e_int]
  have h40 : m.given.length ≠ 40 := by simp at h; omega
  have hlen := okM_len hm
  refine AW.skip ?_; simp only [thenQ, blockQ, reduceIte, Nat.reduceEqDiff]
  refine AW.seq (AW.label ?_)
  simp only [thenQ, blockQ]
  refine AW.seq ?_
  refine AW.seq (AW.reg cd55_6 fun K hK => ?_)
  simp only [g55_6, bR, Nat.reduceEqDiff, reduceIte, Int.reduceBNe, Int.reduceBEq]
  try simp only [typR, useR, okR, e_fin, bR, Nat.reduceEqDiff, reduceIte, Int.reduceBNe, Int.reduceBEq]
  refine .lead _ F101 ?_
  simp only [bR, Nat.reduceEqDiff, reduceIte, Int.reduceBNe, Int.reduceBEq]
  refine .done (hK _ ?_); clear hK K; simp only [thenQ, blockQ]
  refine AW.block (AW.rfun (osb0 := nx m zero6 0) (tsR := [(1, .ptr 1000001 []), (2, .ptr 1000002 []), (3, .ptr 1000003 [])]) (ρ := [(1999999, 999999), (1000001, 1), (1000002, 2), (1000003, 3)])
    (fun k os => os = nx m zero6 0 ∧ ∀ j, j < k → blocked m (dgs j) = true)
    (fun e os => e = none ∧ ∃ k, k < 15625 ∧ os = nx m (dgs k) 0 ∧ blocked m (dgs k) = false ∧ ∀ j, j < k → blocked m (dgs j) = true)
    rfl (Nat.le_of_ble_eq_true rfl) ?_ rfl ca121 F121 (fun _ => rfl) ?_ ?_ rfl (fun o => ⟨?_, ?_⟩) ?_ ?_ ?_ ⟨rfl, fun j h => by omega⟩ ?_ ?_ ?_)
  · simp only [bR, Nat.reduceEqDiff, reduceIte, Int.reduceBNe, Int.reduceBEq]
  · simp [lookO]
  · simp [nx, isIn, lookO]
  · intro n x hx
    simp only [recd, nx, lookO] at hx
    repeat' split at hx
    all_goals first | (cases hx; done) | (subst_vars; simp only [Option.some.injEq] at hx; subst hx; simp [recd, nx, rnm, lookO, AO.ren, AV.ren, e_ren, AO.only, AV.only, e_only, AO.fix, e_int])
  · intro a b ha hb
    simp only [recd, nx, isIn, lookO] at ha hb
    repeat' split at ha
    all_goals first | (simp at ha; done) | skip
    all_goals (repeat' split at hb)
    all_goals first | (simp at hb; done) | (subst_vars; simp [rnm])
  · simp [slotsOk, look_cons, AV.ren, rnm, AV.only, nx, isIn, lookO]
  · rintro k os ⟨rfl, _⟩; exact nx_good ..
  · rintro e os ⟨_, k, _, rfl, _⟩; exact nx_good ..
  · rintro k osb hk ⟨rfl, hall⟩ W1 D1 E1 l o1 o2
    simp only [putsT, recd, nx]
    refine AW.reg cd55_7 fun K hK => ?_
    simp only [g55_7, bR, Nat.reduceEqDiff, reduceIte, Int.reduceBNe, Int.reduceBEq]
    simp only [e_zero6, stR3_6, bR, Nat.reduceEqDiff, reduceIte, Int.reduceBNe, Int.reduceBEq]
    refine .done (hK _ ?_); clear hK K; simp only [thenQ, blockQ]
    refine ⟨by simp [mkA, lookO], ?_⟩
    simp only [bR, Nat.reduceEqDiff, reduceIte, Int.reduceBNe, Int.reduceBEq]
    refine AW.block (AW.seq ?_)
    refine AW.seq (AW.reg cd55_8 fun K hK => ?_)
    simp only [g55_8, bR, Nat.reduceEqDiff, reduceIte, Int.reduceBNe, Int.reduceBEq]
    try simp only [typR, useR, okR, e_fin, bR, Nat.reduceEqDiff, reduceIte, Int.reduceBNe, Int.reduceBEq]
    refine .done (hK _ ?_); clear hK K; simp only [thenQ, blockQ]
    refine AW.block (AW.loop (fun i : Nat => mkA [(1, .ptr 1000001 []), (2, .ptr 1000002 []), (3, .ptr 1000003 []), (5, .ptr 5 []), (22, enc m.given), (23, .int .i64 m.given.length), (24, .int .i64 i)]
      [(1999999, .opq o2), (5, .box (enc (dgs k))), (1000001, .box (enc m)), (1000002, .box (enc zero6)), (1000003, .box (.int .i64 0))]) (fun i => i ≤ m.given.length ∧ ∀ j, j < i → tooNear m (gv m j).mark (dgs k) = false) (fun i => m.given.length - i) 0 ⟨by omega, fun j h => by omega⟩ ?_ ?_)
    · refine Sub.of_lists ?_ ?_ ?_ ?_ <;> simp [subT, subO, onlyT, onlyO, isIn, look_cons, lookO_cons, lookO_nil, AV.only, AV.onlys, AO.only, onlys_map, onlys_append, e_only, e_int, e_bool]
    rintro i ⟨hi, hj⟩
    refine AW.seq (AW.reg cd55_9 fun K hK => ?_)
    simp only [g55_9, bR, Nat.reduceEqDiff, reduceIte, Int.reduceBNe, Int.reduceBEq]
    refine .done (hK _ ?_); clear hK K; simp only [thenQ, blockQ]
    refine AW.seq ?_
    refine AW.ite ?_
    simp only [condQ, bR, Nat.reduceEqDiff, reduceIte, Int.reduceBNe, Int.reduceBEq]
    refine ⟨fun h => ?_, fun h => ?_⟩
    · have hlt : i < m.given.length := by simp at h; omega
      refine AW.skip ?_; simp only [thenQ, blockQ, reduceIte, Nat.reduceEqDiff]
      refine AW.seq (AW.block ?_)
      refine AW.seq (AW.reg cd55_10 fun K hK => ?_)
      simp only [g55_10, bR, Nat.reduceEqDiff, reduceIte, Int.reduceBNe, Int.reduceBEq]
      try simp only [typR, useR, okR, e_fin, bR, Nat.reduceEqDiff, reduceIte, Int.reduceBNe, Int.reduceBEq]
      simp only [isE_gv hlt, bR, Nat.reduceEqDiff, reduceIte, Int.reduceBNe, Int.reduceBEq]
      try simp only [typR, useR, okR, e_fin, bR, Nat.reduceEqDiff, reduceIte, Int.reduceBNe, Int.reduceBEq]
      simp only [e_g0, stR3_G, bR, Nat.reduceEqDiff, reduceIte, Int.reduceBNe, Int.reduceBEq]
      refine .done (hK _ ?_); clear hK K; simp only [thenQ, blockQ]
      refine AW.seq ?_
      refine AW.reg cd55_11 fun K hK => ?_
      simp only [g55_11, bR, Nat.reduceEqDiff, reduceIte, Int.reduceBNe, Int.reduceBEq]
      try simp only [typR, useR, okR, e_fin, bR, Nat.reduceEqDiff, reduceIte, Int.reduceBNe, Int.reduceBEq]
      refine .flat _ (F87 m.wear (gv m i).mark (dgs k) (by rw [← gv_eq hlt]; exact okM_mark hm _ (List.getElem_mem hlt)) (okMark_dgs k)) rfl ?_
      try simp only [typR, useR, okR, e_fin, bR, Nat.reduceEqDiff, reduceIte, Int.reduceBNe, Int.reduceBEq]
      refine .done (hK _ ?_); clear hK K; simp only [thenQ, blockQ]
      have hdec : decide ((cnt (apartAt m.wear (gv m i).mark (dgs k)) 6 : Int) ≤ IntKind.i64.wrap (2 * m.fls)) = tooNear m (gv m i).mark (dgs k) := rfl
      refine AW.ite ?_
      simp only [condQ, bR, Nat.reduceEqDiff, reduceIte, Int.reduceBNe, Int.reduceBEq]
      refine ⟨fun h => ?_, fun h => ?_⟩
      · rw [hdec] at h
        refine AW.exit ?_; simp only [thenQ, blockQ, reduceIte, Nat.reduceEqDiff]
        refine ⟨nx m zero6 0, ?_, rfl, fun j hj1 => ?_⟩
        · intro n x hx
          simp only [recd, nx, lookO] at hx
          (repeat' split at hx) <;> first
            | (cases hx; done)
            | (subst_vars; simp only [Option.some.injEq] at hx; subst hx; simp [nx, recd, mkA, lookO, AO.only, AV.only, e_only, AO.fix])
        · rcases Nat.lt_or_ge j k with hlt' | hge
          · exact hall j hlt'
          · have : j = k := by omega
            subst this
            exact blocked_at hlt h
      · rw [hdec] at h
        refine AW.skip ?_; simp only [thenQ, blockQ, reduceIte, Nat.reduceEqDiff]
        refine AW.reg cd55_12 fun K hK => ?_
        simp only [g55_12, bR, Nat.reduceEqDiff, reduceIte, Int.reduceBNe, Int.reduceBEq]
        refine .done (hK _ ?_); clear hK K; simp only [thenQ, blockQ]
        refine ⟨i + 1, ⟨by omega, fun j hj1 => ?_⟩, by omega, ?_⟩
        · rcases Nat.lt_or_ge j i with hlt' | hge
          · exact hj j hlt'
          · have : j = i := by omega
            subst this; exact h
        · rw [wrap_id _ (by omega) (by omega)]
          refine Sub.of_lists ?_ ?_ ?_ ?_ <;> simp [subT, subO, onlyT, onlyO, isIn, look_cons, lookO_cons, lookO_nil, AV.only, AV.onlys, AO.only, onlys_map, onlys_append, e_only, e_int, e_bool]
    · have he : i = m.given.length := by simp at h; omega
      subst he
      refine AW.exit ?_; simp only [thenQ, blockQ, reduceIte, Nat.reduceEqDiff]
      refine AW.seq (AW.reg cd55_13 fun K hK => ?_)
      simp only [g55_13, bR, Nat.reduceEqDiff, reduceIte, Int.reduceBNe, Int.reduceBEq]
      simp only [stR3_6, stR3_i, typR, useR, okR, bR, Nat.reduceEqDiff, reduceIte, Int.reduceBNe, Int.reduceBEq]
      refine .done (hK _ ?_); clear hK K; simp only [thenQ, blockQ]
      refine AW.ret ?_
      simp only [thenQ, blockQ]
      refine ⟨nx m (dgs k) 0, ?_, rfl, k, hk, rfl, blocked_no hj, hall⟩
      intro n x hx
      simp only [recd, nx, lookO] at hx
      (repeat' split at hx) <;> first
        | (cases hx; done)
        | (subst_vars; simp only [Option.some.injEq] at hx; subst hx; simp [nx, recd, mkA, lookO, AO.only, AV.only, e_only, AO.fix])
  · rintro os ⟨rfl, hall⟩
    simp only [blockQ, thenQ, nx, renR, e_ren, List.cons_append, List.nil_append, bR, Nat.reduceEqDiff, reduceIte, Int.reduceBNe, Int.reduceBEq]
    refine AW.seq (AW.reg cd55_14 fun K hK => ?_)
    simp only [g55_14, bR, Nat.reduceEqDiff, reduceIte, Int.reduceBNe, Int.reduceBEq]
    simp only [setParts, e_zero6, stR3_6, stR3_i, bR, Nat.reduceEqDiff, reduceIte, Int.reduceBNe, Int.reduceBEq]
    refine .done (hK _ ?_); clear hK K; simp only [thenQ, blockQ]
    refine AW.ret ?_
    simp only [scopeQ, thenQ, blockQ, typR, e_fin, setAt_nil, e_int, bR, Nat.reduceEqDiff, reduceIte, Int.reduceBNe, Int.reduceBEq]
    have hn : nextK m = none := find_range_none _ fun k hk => by simp [hall k hk]
    simp [nextOf, hm, h40, hn, e_int]
  · rintro e os ⟨rfl, k, hk, rfl, hb, hall⟩
    simp only [exitOf, blockQ, thenQ, scopeQ, nx, renR, e_ren, List.cons_append, List.nil_append, typR, e_fin, bR, Nat.reduceEqDiff, reduceIte, Int.reduceBNe, Int.reduceBEq]
    have hn : nextK m = some k := find_range _ hk (by simp [hb]) fun j hj => by simp [hall j hj]
    simp [nextOf, hm, h40, hn, e_int]
end Go.Proofs.Ytkjkbpgdpnapfaa

/-
  FUNCTIONS BY CONTRACT: of mark: settles; of the law: its book.
-/
namespace Go.Proofs.Ytkjkbpgdpnapfaa
open Go Go.Abs
open Go.Abs.Enc (enc)
def a6 (a b c d e f : Int) : Arr 6 Int := ⟨[a, b, c, d, e, f], rfl⟩
def a5 (a b c d e : Int) : Arr 5 Int := ⟨[a, b, c, d, e], rfl⟩
def bookM : Marks := ⟨a5 1 3 4 24 24, 0, [⟨1, a6 0 0 0 0 0 0⟩, ⟨2, a6 2 0 0 0 0 0⟩, ⟨3, a6 3 0 0 0 0 2⟩]⟩
theorem F107 (w : Arr 5 Int) (g h : Given) (k : Nat) (hk : k < 6) (hg : okMark g.mark = true) (hh : okMark h.mark = true) : Ctr Try.prog 107 (enc (k : Int) :: [.ref (enc w), .ref (enc g), .ref (enc h)]) (enc (apartAt w g.mark h.mark k)) := by
  refine Ctr.mk' Try.func107 ca107 cc107 cr107 (Nat.le_of_ble_eq_true rfl) (fun hwf W0 D0 E1 => ?_)
  simp only [c107, r107, idx, Nat.zero_add, Nat.reduceAdd]
  have h1 := okMark_at hg hk
  have h2 := okMark_at hh hk
  refine AW.seq (AW.reg cd107_0 fun K hK => ?_)
  simp only [g107_0, bR, Nat.reduceEqDiff, reduceIte, Int.reduceBNe, Int.reduceBEq]
  refine .done (hK _ ?_); clear hK K; simp only [thenQ, blockQ]
  refine AW.seq (AW.reg cd107_1 fun K hK => ?_)
  simp only [g107_1, bR, Nat.reduceEqDiff, reduceIte, Int.reduceBNe, Int.reduceBEq]
  try simp only [typR, useR, okR, e_fin, bR, Nat.reduceEqDiff, reduceIte, Int.reduceBNe, Int.reduceBEq]
  refine .flat _ (F77 w g.mark k hk h1.1 h1.2) rfl ?_
  try simp only [typR, useR, okR, e_fin, bR, Nat.reduceEqDiff, reduceIte, Int.reduceBNe, Int.reduceBEq]
  refine .flat _ (F77 w h.mark k hk h2.1 h2.2) rfl ?_
  try simp only [typR, useR, okR, e_fin, bR, Nat.reduceEqDiff, reduceIte, Int.reduceBNe, Int.reduceBEq]
  refine .flat _ (F78 _ _) rfl ?_
  try simp only [typR, useR, okR, e_fin, bR, Nat.reduceEqDiff, reduceIte, Int.reduceBNe, Int.reduceBEq]
  refine .done (hK _ ?_); clear hK K; simp only [thenQ, blockQ]
  refine AW.ret ?_
  simp only [blockQ, thenQ, bR, Nat.reduceEqDiff, reduceIte, Int.reduceBNe, Int.reduceBEq]
  simp only [apartAt, bne, Bool.not_not]
theorem bld5 (a b c d e : Int) : setParts [.int .i64 0, .int .i64 0, .int .i64 0, .int .i64 0, .int .i64 0] [(0, .int .i64 a), (1, .int .i64 b), (2, .int .i64 c), (3, .int .i64 d), (4, .int .i64 e)] = some [.int .i64 a, .int .i64 b, .int .i64 c, .int .i64 d, .int .i64 e] := rfl
theorem bld6 (a b c d e f : Int) : setParts [.int .i64 0, .int .i64 0, .int .i64 0, .int .i64 0, .int .i64 0, .int .i64 0] [(0, .int .i64 a), (1, .int .i64 b), (2, .int .i64 c), (3, .int .i64 d), (4, .int .i64 e), (5, .int .i64 f)] = some [.int .i64 a, .int .i64 b, .int .i64 c, .int .i64 d, .int .i64 e, .int .i64 f] := rfl
theorem e_a5 (a b c d e : Int) : AV.agg [.int .i64 a, .int .i64 b, .int .i64 c, .int .i64 d, .int .i64 e] = enc (a5 a b c d e) := rfl
theorem e_a6 (a b c d e f : Int) : AV.agg [.int .i64 a, .int .i64 b, .int .i64 c, .int .i64 d, .int .i64 e, .int .i64 f] = enc (a6 a b c d e f) := rfl
theorem bldG0 (o : Int) : setParts [.int .i64 0, enc (a6 0 0 0 0 0 0)] [(0, .int .i64 o)] = some [.int .i64 o, enc (a6 0 0 0 0 0 0)] := rfl
theorem setParts_cons {zs : List AV} {i : Nat} {v z : AV} {rest : List (Nat × AV)} (h : zs[i]? = some z) (h1 : v.isVal = true) (h2 : v.size = z.size) : setParts zs ((i, v) :: rest) = setParts (zs.set i v) rest := by
  simp only [setParts, h]; rw [if_pos ⟨h1, h2⟩]
theorem bldG (o : Int) (m : Arr 6 Int) : setParts [.int .i64 0, enc (a6 0 0 0 0 0 0)] [(0, .int .i64 o), (1, enc m)] = some [.int .i64 o, enc m] := by
  have h2 : ((enc m : AV).isVal = true ∧ (enc m : AV).size = (enc (a6 0 0 0 0 0 0)).size) := ⟨e_isVal _, by rw [e_size, e_size]⟩
  have h1 : ((AV.int .i64 o).isVal = true ∧ (AV.int .i64 o).size = (AV.int .i64 0).size) := ⟨rfl, rfl⟩
  rw [setParts_cons rfl h1.1 h1.2, setParts_cons rfl h2.1 h2.2]; rfl
theorem bldM (w : Arr 5 Int) (l : List Given) : setParts [enc (a5 0 0 0 0 0), .int .i64 0, .nils 7] [(0, enc w), (2, enc l)] = some [enc w, .int .i64 0, enc l] := by
  have h1 : ((enc w : AV).isVal = true ∧ (enc w : AV).size = (enc (a5 0 0 0 0 0)).size) := ⟨e_isVal _, by rw [e_size, e_size]⟩
  have h2 : ((enc l : AV).isVal = true ∧ (enc l : AV).size = (AV.nils 7).size) := ⟨e_isVal _, by rw [e_size]; rfl⟩
  rw [setParts_cons rfl h1.1 h1.2, setParts_cons rfl h2.1 h2.2]; rfl
theorem e_G (o : Int) (m : Arr 6 Int) : AV.agg [.int .i64 o, enc m] = enc (⟨o, m⟩ : Given) := rfl
theorem e_M (w : Arr 5 Int) (n : Int) (l : List Given) : AV.agg [enc w, .int .i64 n, enc l] = enc (⟨w, n, l⟩ : Marks) := rfl
theorem bsG3 (a b c : Given) : bsE 7 (some [enc a, enc b, enc c]) = some (enc [a, b, c]) := (bsE_enc (α := Given) 7 rfl : bsE 7 (some ([a, b, c].map enc)) = _)
theorem F82 : Ctr Try.prog 82 [] (enc bookM) := by
  refine Ctr.mk' Try.func82 ca82 cc82 cr82 (Nat.le_of_ble_eq_true rfl) (fun hwf W0 D0 E1 => ?_)
  simp only [c82, r82, idx, Nat.zero_add, Nat.reduceAdd]
  refine AW.seq (AW.reg cd82_0 fun K hK => ?_)
  simp only [g82_0, bR, Nat.reduceEqDiff, reduceIte, Int.reduceBNe, Int.reduceBEq]
  refine .done (hK _ ?_); clear hK K; simp only [thenQ, blockQ]
  refine AW.seq (AW.reg cd82_1 fun K hK => ?_)
  simp only [g82_1, bR, Nat.reduceEqDiff, reduceIte, Int.reduceBNe, Int.reduceBEq]
  simp only [bld5, bld6, bldG0, bldG, bldM, bsG3, e_a5, e_a6, e_G, e_M, e_fin, bR, Nat.reduceEqDiff, reduceIte, Int.reduceBNe, Int.reduceBEq]
  rw [stR3_ok (e_isVal _) (by rw [e_okS]; rfl) ((e_sh _).trans rfl)]
  simp only [setAt_nil, bR, Nat.reduceEqDiff, reduceIte, Int.reduceBNe, Int.reduceBEq]
  refine .done (hK _ ?_); clear hK K; simp only [thenQ, blockQ]
  refine AW.ret ?_
  simp only [blockQ, thenQ, bR, Nat.reduceEqDiff, reduceIte, Int.reduceBNe, Int.reduceBEq]
  simp only [typR, e_fin, bR, Nat.reduceEqDiff, reduceIte, Int.reduceBNe, Int.reduceBEq]
  rfl
end Go.Proofs.Ytkjkbpgdpnapfaa

/-
  FUNCTIONS OF slices BY CONTRACT, over given marks: DeleteFunc.
-/
namespace Go.Proofs.Ytkjkbpgdpnapfaa
open Go Go.Abs
open Go.Abs.Enc (enc)
theorem F73n (f : FuncId) (caps : List AV) (hcaps : AV.dones caps = true) : Ctr Try.prog 73 [enc ([] : List Given), .func f caps] (enc ([] : List Given)) := by
  refine Ctr.mk' Try.func73 ca73 cc73 cr73 (Nat.le_of_ble_eq_true rfl) (fun hwf W0 D0 E1 => ?_)
  simp only [c73, r73, idx, Nat.zero_add, Nat.reduceAdd]
  have hcl : AV.closeds caps = true := dones_closed caps hcaps
  have hfc : ∀ bx A, fins bx A caps = some caps := fun bx A => fins_dones bx A caps hcaps
  refine AW.seq (AW.reg cd73_0 fun K hK => ?_)
  simp only [g73_0, bR, Nat.reduceEqDiff, reduceIte, Int.reduceBNe, Int.reduceBEq]
  refine .done (hK _ ?_); clear hK K; simp only [thenQ, blockQ]
  refine AW.seq (AW.reg cd73_1 fun K hK => ?_)
  simp only [g73_1, bR, Nat.reduceEqDiff, reduceIte, Int.reduceBNe, Int.reduceBEq]
  simp only [e_fin, hfc, bR, Nat.reduceEqDiff, reduceIte, Int.reduceBNe, Int.reduceBEq]
  refine .flat _ (F108 [] f caps hcaps (fun _ => false) (fun x hx => by cases hx)) rfl ?_
  simp only [List.findIdx?_nil, bR, Nat.reduceEqDiff, reduceIte, Int.reduceBNe, Int.reduceBEq]
  refine .done (hK _ ?_); clear hK K; simp only [thenQ, blockQ]
  refine AW.seq (AW.seq ?_)
  refine AW.reg cd73_2 fun K hK => ?_
  simp only [g73_2, bR, Nat.reduceEqDiff, reduceIte, Int.reduceBNe, Int.reduceBEq]
  refine .done (hK _ ?_); clear hK K; simp only [thenQ, blockQ]
  refine AW.ite ?_
  simp only [condQ, bR, Nat.reduceEqDiff, reduceIte, Int.reduceBNe, Int.reduceBEq]
  refine ⟨fun h => ?_, fun h => ?_⟩
  · refine AW.seq (AW.reg cd73_3 fun K hK => ?_)
    simp only [g73_3, bR, Nat.reduceEqDiff, reduceIte, Int.reduceBNe, Int.reduceBEq]
    refine .done (hK _ ?_); clear hK K; simp only [thenQ, blockQ]
    refine AW.ret ?_
    simp only [blockQ, thenQ, bR, Nat.reduceEqDiff, reduceIte, Int.reduceBNe, Int.reduceBEq]
    simp only [e_fin, bR, Nat.reduceEqDiff, reduceIte, Int.reduceBNe, Int.reduceBEq]
  · cases h
def keep (p : Given → Bool) (l : List Given) : List Given := l.filter fun x => !p x
def delPost (k : Nat) (l : List Given) : Post := fun r os' => ∃ m, r = .view k [] 7 0 l.length ∧ os' = rowG k l m
theorem onlys_rep (p : Nat → Bool) (m : Nat) (x : Given) : AV.onlys p (List.replicate m (enc x)) = true := by
  have : List.replicate m (enc x) = (List.replicate m x).map (enc (α := Given)) := by simp
  rw [this]; exact onlys_map p _
theorem onlys_set (p : Nat → Bool) (xs : List Given) (i : Nat) (v : Given) : AV.onlys p ((xs.map enc).set i (enc v)) = true := by
  rw [← List.map_set]; exact onlys_map p _
theorem rowG_get {xs : List Given} {m j : Nat} (h : j < xs.length) : ((xs ++ List.replicate m g0).map (enc (α := Given)))[0 + j]? = some (enc xs[j]) := by
  rw [Nat.zero_add, List.getElem?_map, List.getElem?_append_left h, List.getElem?_eq_getElem h]; rfl
theorem rowG_set {xs : List Given} {m i : Nat} (h : i < xs.length) (v : Given) : ((xs ++ List.replicate m g0).map (enc (α := Given))).set (0 + i) (enc v) = (xs.set i v ++ List.replicate m g0).map enc := by
  rw [Nat.zero_add, ← List.map_set, List.set_append_left _ _ h]
theorem take_row (l : List Given) (m : Nat) : (l ++ List.replicate m g0).take l.length = l := List.take_left
theorem filter_take_succ (p : Given → Bool) (l : List Given) {j : Nat} (h : j < l.length) : keep p (l.take (j + 1)) = keep p (l.take j) ++ (if p l[j] then [] else [l[j]]) := by
  rw [List.take_succ_eq_append_getElem h]
  simp only [keep, List.filter_append, List.filter_cons, List.filter_nil]
  cases p l[j] <;> simp
theorem F73 (l : List Given) (f : FuncId) (caps : List AV) (hcaps : AV.dones caps = true) (p : Given → Bool) (hf : ∀ x ∈ l, Ctr Try.prog f (enc x :: caps) (enc (p x))) (hlen : l.length ≤ 1000) (m : Nat) :
    CtrO Try.prog 73 [.view 1000000 [] 7 0 l.length, .func f caps] (rowG 1000000 l m) (delPost 1000000 (keep p l)) := by
  refine CtrO.mk' Try.func73 ca73 cc73 cr73 (Nat.le_of_ble_eq_true rfl) (Nat.le_of_ble_eq_true rfl) (fun m hm => by rw [isIn_one.1 hm]; exact Nat.le_refl _) (fun hwf W0 D0 E1 => ?_)
  simp only [c73, r73, idx, Nat.zero_add, Nat.reduceAdd]
  have hcl : AV.closeds caps = true := dones_closed caps hcaps
  have hfc : ∀ bx A, fins bx A caps = some caps := fun bx A => fins_dones bx A caps hcaps
  have hon : ∀ q, AV.onlys q caps = true := fun q => onlys_closed q caps hcl
  simp only [rowG]
  refine AW.seq (AW.reg cd73_0 fun K hK => ?_)
  simp only [g73_0, bR, Nat.reduceEqDiff, reduceIte, Int.reduceBNe, Int.reduceBEq]
  refine .done (hK _ ?_); clear hK K; simp only [thenQ, blockQ]
  refine AW.seq (AW.reg cd73_1 fun K hK => ?_)
  simp only [g73_1, bR, Nat.reduceEqDiff, reduceIte, Int.reduceBNe, Int.reduceBEq]
  simp only [hfc, finV_take (α := Given) (sz := 7) rfl, take_row, bR, Nat.reduceEqDiff, reduceIte, Int.reduceBNe, Int.reduceBEq]
  refine .flat _ (F108 l f caps hcaps p hf) rfl ?_
  simp only [bR, Nat.reduceEqDiff, reduceIte, Int.reduceBNe, Int.reduceBEq]
  refine .done (hK _ ?_); clear hK K; simp only [thenQ, blockQ]
  generalize hfi : l.findIdx? p = fi
  cases fi with
  | none =>
    rw [List.findIdx?_eq_none_iff] at hfi
    have hk : keep p l = l := by
      simp only [keep, List.filter_eq_self]; intro x hx; simp [hfi x hx]
    refine AW.seq (AW.seq ?_)
    refine AW.reg cd73_2 fun K hK => ?_
    simp only [g73_2, bR, Nat.reduceEqDiff, reduceIte, Int.reduceBNe, Int.reduceBEq]
    refine .done (hK _ ?_); clear hK K; simp only [thenQ, blockQ]
    refine AW.ite ?_
    simp only [condQ, bR, Nat.reduceEqDiff, reduceIte, Int.reduceBNe, Int.reduceBEq]
    refine ⟨fun h => ?_, fun h => ?_⟩
    · refine AW.seq (AW.reg cd73_3 fun K hK => ?_)
      simp only [g73_3, bR, Nat.reduceEqDiff, reduceIte, Int.reduceBNe, Int.reduceBEq]
      refine .done (hK _ ?_); clear hK K; simp only [thenQ, blockQ]
      refine AW.ret ?_
      simp only [blockQ, thenQ, retO_ret]
      rw [hk]
      exact ⟨rowG 1000000 l m, [.view 1000000 [] 7 0 l.length], held1 rfl (fun p => map_only p _), ⟨⟨_, rfl, .inl ⟨rfl, rfl, rfl⟩⟩, trivial⟩, m, rfl, rfl⟩
    · cases h
  | some i0 =>
    obtain ⟨q1, q2, q3⟩ := List.findIdx?_eq_some_iff_getElem.1 hfi
    have hstart : l.take i0 = keep p (l.take (i0 + 1)) := by
      rw [filter_take_succ p l q1, q2]
      simp only [if_true, List.append_nil, keep]
      symm
      rw [List.filter_eq_self]
      intro x hx
      rw [List.mem_take_iff_getElem] at hx
      obtain ⟨j, hj, rfl⟩ := hx
      have := q3 j (by omega)
      simpa using this
    refine AW.seq (AW.seq ?_)
    refine AW.reg cd73_2 fun K hK => ?_
    simp only [g73_2, bR, Nat.reduceEqDiff, reduceIte, Int.reduceBNe, Int.reduceBEq]
    refine .done (hK _ ?_); clear hK K; simp only [thenQ, blockQ]
    refine AW.ite ?_
    simp only [condQ, bR, Nat.reduceEqDiff, reduceIte, Int.reduceBNe, Int.reduceBEq]
    refine ⟨fun h => ?_, fun h => ?_⟩
    · simp at h
    refine AW.skip ?_; simp only [thenQ, blockQ, reduceIte, Nat.reduceEqDiff]
    refine AW.seq (AW.seq ?_)
    refine AW.reg cd73_4 fun K hK => ?_
    simp only [g73_4, bR, Nat.reduceEqDiff, reduceIte, Int.reduceBNe, Int.reduceBEq]
    refine .done (hK _ ?_); clear hK K; simp only [thenQ, blockQ]
    refine AW.block (AW.loop (fun s : List Given × Nat × Nat => mkA [(0, .view 1000000 [] 7 0 l.length), (1, .func f caps), (5, .int .i64 s.2.1), (6, .int .i64 s.2.2)] [(1000000, .box (.agg ((s.1 ++ List.replicate m g0).map enc)))])
      (fun s => s.1.length = l.length ∧ s.2.1 < s.2.2 ∧ s.2.2 ≤ l.length ∧ s.1.take s.2.1 = keep p (l.take s.2.2) ∧ s.1.drop s.2.2 = l.drop s.2.2) (fun s => l.length - s.2.2) (l, i0, i0 + 1) ⟨rfl, by simp only; omega, by simp only; omega, hstart, rfl⟩ ?_ ?_)
    · rw [wrap_id _ (by omega) (by omega)]
      refine Sub.of_lists ?_ ?_ ?_ ?_ <;> simp [subT, subO, onlyT, onlyO, isIn, look_cons, lookO_cons, lookO_nil, AV.only, AV.onlys, AO.only, onlys_map, onlys_append, e_only, e_int, e_bool, hon, onlys_rep, onlys_set]
    · rintro ⟨xs, i, j⟩ ⟨c1, c2, c3, c4, c5⟩
      simp only at c1 c2 c3 c4 c5 ⊢
      refine AW.seq (AW.seq ?_)
      refine AW.reg cd73_5 fun K hK => ?_
      simp only [g73_5, bR, Nat.reduceEqDiff, reduceIte, Int.reduceBNe, Int.reduceBEq]
      simp only [viewR, bR, Nat.reduceEqDiff, reduceIte, Int.reduceBNe, Int.reduceBEq]
      refine .done (hK _ ?_); clear hK K; simp only [thenQ, blockQ]
      refine AW.ite ?_
      simp only [condQ, bR, Nat.reduceEqDiff, reduceIte, Int.reduceBNe, Int.reduceBEq]
      refine ⟨fun h => ?_, fun h => ?_⟩
      · have hj : j < l.length := by simpa using h
        have hjx : j < xs.length := by omega
        have hix : i < xs.length := by omega
        have hxj : xs[j] = l[j] := by
          have h1 : (xs.drop j)[0]? = (l.drop j)[0]? := by rw [c5]
          simpa [hj, hjx] using h1
        refine AW.skip ?_; simp only [thenQ, blockQ, reduceIte, Nat.reduceEqDiff]
        refine AW.seq (AW.block ?_)
        refine AW.seq (AW.reg cd73_6 fun K hK => ?_)
        simp only [g73_6, bR, Nat.reduceEqDiff, reduceIte, Int.reduceBNe, Int.reduceBEq]
        simp only [viewR, isV_ok (sz := 7) hj, List.nil_append, bR, Nat.reduceEqDiff, reduceIte, Int.reduceBNe, Int.reduceBEq]
        simp only [rowG_get hjx, hxj, typR, bR, Nat.reduceEqDiff, reduceIte, Int.reduceBNe, Int.reduceBEq]
        rw [stR3_ok (e_isVal _) (by rw [e_okS]; rfl) ((e_sh _).trans rfl)]
        simp only [typR, useR, okR, bR, Nat.reduceEqDiff, reduceIte, Int.reduceBNe, Int.reduceBEq]
        refine .done (hK _ ?_); clear hK K; simp only [thenQ, blockQ]
        refine AW.seq (AW.reg cd73_7 fun K hK => ?_)
        simp only [g73_7, bR, Nat.reduceEqDiff, reduceIte, Int.reduceBNe, Int.reduceBEq]
        simp only [typR, useR, okR, e_fin, hfc, List.cons_append, List.nil_append, bR, Nat.reduceEqDiff, reduceIte, Int.reduceBNe, Int.reduceBEq]
        refine .flat _ (hf _ (List.getElem_mem hj)) rfl ?_
        simp only [bR, Nat.reduceEqDiff, reduceIte, Int.reduceBNe, Int.reduceBEq]
        refine .done (hK _ ?_); clear hK K; simp only [thenQ, blockQ]
        refine AW.ite ?_
        simp only [condQ, bR, Nat.reduceEqDiff, reduceIte, Int.reduceBNe, Int.reduceBEq]
        refine ⟨fun h => ?_, fun h => ?_⟩
        · have hpj : p l[j] = false := by simpa using h
          refine AW.seq (AW.reg cd73_8 fun K hK => ?_)
          simp only [g73_8, bR, Nat.reduceEqDiff, reduceIte, Int.reduceBNe, Int.reduceBEq]
          simp only [typR, useR, okR, e_fin, viewR, isV_ok (sz := 7) (show i < l.length by omega), List.nil_append, bR, Nat.reduceEqDiff, reduceIte, Int.reduceBNe, Int.reduceBEq]
          simp only [rowG_get hix, bR, Nat.reduceEqDiff, reduceIte, Int.reduceBNe, Int.reduceBEq]
          rw [stR3_ok (e_isVal _) (by rw [e_okS]; rfl) ((e_sh _).trans (e_sh _).symm)]
          simp only [rowG_get hix, rowG_set hix, bR, Nat.reduceEqDiff, reduceIte, Int.reduceBNe, Int.reduceBEq]
          refine .done (hK _ ?_); clear hK K; simp only [thenQ, blockQ]
          refine AW.reg cd73_9 fun K hK => ?_
          simp only [g73_9, bR, Nat.reduceEqDiff, reduceIte, Int.reduceBNe, Int.reduceBEq]
          refine .done (hK _ ?_); clear hK K; simp only [thenQ, blockQ]
          refine AW.reg cd73_10 fun K hK => ?_
          simp only [g73_10, bR, Nat.reduceEqDiff, reduceIte, Int.reduceBNe, Int.reduceBEq]
          refine .done (hK _ ?_); clear hK K; simp only [thenQ, blockQ]
          refine ⟨(xs.set i l[j], i + 1, j + 1), ⟨by simp [c1], by simp only; omega, by simp only; omega, ?_, ?_⟩, by simp only; omega, ?_⟩
          · simp only
            rw [filter_take_succ p l hj, hpj, ← c4]
            simp only [Bool.false_eq_true, if_false]
            rw [List.take_succ_eq_append_getElem (by simpa using hix), List.take_set_of_le (Nat.le_refl _)]
            simp
          · simp only
            rw [List.drop_set_of_lt (by omega)]
            have : (xs.drop j).drop 1 = (l.drop j).drop 1 := by rw [c5]
            simpa [List.drop_drop] using this
          · simp only
            rw [wrap_id _ (by omega) (by omega), wrap_id _ (by omega) (by omega)]
            refine Sub.of_lists ?_ ?_ ?_ ?_ <;> simp [subT, subO, onlyT, onlyO, isIn, look_cons, lookO_cons, lookO_nil, AV.only, AV.onlys, AO.only, onlys_map, onlys_append, e_only, e_int, e_bool, hon, onlys_rep, onlys_set]
        · have hpj : p l[j] = true := by simpa using h
          refine AW.skip ?_; simp only [thenQ, blockQ, reduceIte, Nat.reduceEqDiff]
          refine AW.reg cd73_10 fun K hK => ?_
          simp only [g73_10, bR, Nat.reduceEqDiff, reduceIte, Int.reduceBNe, Int.reduceBEq]
          refine .done (hK _ ?_); clear hK K; simp only [thenQ, blockQ]
          refine ⟨(xs, i, j + 1), ⟨c1, by simp only; omega, by simp only; omega, ?_, ?_⟩, by simp only; omega, ?_⟩
          · simp only
            rw [filter_take_succ p l hj, hpj, ← c4]
            simp
          · simp only
            have : (xs.drop j).drop 1 = (l.drop j).drop 1 := by rw [c5]
            simpa [List.drop_drop] using this
          · simp only
            rw [wrap_id _ (by omega) (by omega)]
            refine Sub.of_lists ?_ ?_ ?_ ?_ <;> simp [subT, subO, onlyT, onlyO, isIn, look_cons, lookO_cons, lookO_nil, AV.only, AV.onlys, AO.only, onlys_map, onlys_append, e_only, e_int, e_bool, hon, onlys_rep, onlys_set]
      · have hj : j = l.length := by simp at h; omega
        subst hj
        rw [List.take_length] at c4
        have hlk : (keep p l).length = i := by rw [← c4, List.length_take]; omega
        have htot : ((xs ++ List.replicate m g0).map (enc (α := Given))).length = l.length + m := by simp [c1]
        refine AW.exit ?_; simp only [thenQ, blockQ, reduceIte, Nat.reduceEqDiff]
        refine AW.seq (AW.reg cd73_11 fun K hK => ?_)
        simp only [g73_11, bR, Nat.reduceEqDiff, reduceIte, Int.reduceBNe, Int.reduceBEq]
        simp only [viewR, htot, Option.map_none, sliceV_lo (show i ≤ l.length by omega) (show l.length ≤ l.length + m by omega) (show i < l.length + m by omega), e_g0, bR, Nat.reduceEqDiff, reduceIte, Int.reduceBNe, Int.reduceBEq]
        rw [clrO_enc g0 rfl (by simp [c1]; omega)]
        have hcont : (xs ++ List.replicate m g0).take i ++ (List.replicate (l.length - i) g0 ++ (xs ++ List.replicate m g0).drop (i + (l.length - i))) = keep p l ++ List.replicate (l.length - i + m) g0 := by
          rw [List.take_append_of_le_length (by omega), c4]
          have e1 : i + (l.length - i) = xs.length := by omega
          rw [e1, List.drop_left, List.replicate_append_replicate]
        rw [hcont]
        simp only [bR, Nat.reduceEqDiff, reduceIte, Int.reduceBNe, Int.reduceBEq]
        refine .done (hK _ ?_); clear hK K; simp only [thenQ, blockQ]
        have htot2 : ((keep p l ++ List.replicate (l.length - i + m) g0).map (enc (α := Given))).length = l.length + m := by simp [hlk]; omega
        refine AW.seq (AW.reg cd73_12 fun K hK => ?_)
        simp only [g73_12, bR, Nat.reduceEqDiff, reduceIte, Int.reduceBNe, Int.reduceBEq]
        simp only [viewR, htot2, Option.map_none, sliceV_hi (show i ≤ l.length + m by omega) (show 0 < l.length + m by omega), bR, Nat.reduceEqDiff, reduceIte, Int.reduceBNe, Int.reduceBEq]
        refine .done (hK _ ?_); clear hK K; simp only [thenQ, blockQ]
        refine AW.ret ?_
        simp only [blockQ, thenQ, retO_ret]
        exact ⟨rowG 1000000 (keep p l) (l.length - i + m), [.view 1000000 [] 7 0 i], held1 rfl (fun p => map_only p _), ⟨⟨_, rfl, .inl ⟨rfl, rfl, rfl⟩⟩, trivial⟩, l.length - i + m, by rw [hlk]; rfl, rfl⟩
end Go.Proofs.Ytkjkbpgdpnapfaa

/-
  FUNCTIONS OF THE PACKAGE mark BY CONTRACT: possible, owners, Owners, Owner.
-/
namespace Go.Proofs.Ytkjkbpgdpnapfaa
open Go Go.Abs
open Go.Abs.Enc (enc)
theorem F105 (m : Marks) (r : Arr 6 Int) (g : Given) (hg : okMark g.mark = true) : Ctr Try.prog 105 (enc g :: [.ref (enc m), .ref (enc r)]) (enc (decide (m.fls < costOf m.wear g.mark r))) := by
  refine Ctr.mk' Try.func105 ca105 cc105 cr105 (Nat.le_of_ble_eq_true rfl) (fun hwf W0 D0 E1 => ?_)
  simp only [c105, r105, idx, Nat.zero_add, Nat.reduceAdd]
  refine AW.seq (AW.reg cd105_0 fun K hK => ?_)
  simp only [g105_0, bR, Nat.reduceEqDiff, reduceIte, Int.reduceBNe, Int.reduceBEq]
  simp only [e_isVal, bR, Nat.reduceEqDiff, reduceIte, Int.reduceBNe, Int.reduceBEq]
  refine .done (hK _ ?_); clear hK K; simp only [thenQ, blockQ]
  refine AW.seq (AW.reg cd105_1 fun K hK => ?_)
  simp only [g105_1, bR, Nat.reduceEqDiff, reduceIte, Int.reduceBNe, Int.reduceBEq]
  simp only [typR, useR, okR, e_fin, bR, Nat.reduceEqDiff, reduceIte, Int.reduceBNe, Int.reduceBEq]
  refine .flat _ (F88 m.wear g.mark r hg) rfl ?_
  simp only [typR, useR, okR, bR, Nat.reduceEqDiff, reduceIte, Int.reduceBNe, Int.reduceBEq]
  refine .done (hK _ ?_); clear hK K; simp only [thenQ, blockQ]
  refine AW.ret ?_
  simp only [blockQ, thenQ, bR, Nat.reduceEqDiff, reduceIte, Int.reduceBNe, Int.reduceBEq]
def possG (m : Marks) (r : Arr 6 Int) : List Given := keep (fun g => decide (m.fls < costOf m.wear g.mark r)) m.given
def possPost (d : Nat) (m : Marks) (r : Arr 6 Int) : Post := fun x os' => (possG m r = [] ∧ x = enc ([] : List Given) ∧ os' = []) ∨ ∃ k, x = .view d [] 7 0 (possG m r).length ∧ os' = rowG d (possG m r) k
theorem F65 (m : Marks) (r : Arr 6 Int) (hm : ∀ g ∈ m.given, okMark g.mark = true) (hlen : m.given.length ≤ 1000) : CtrO Try.prog 65 [enc m, enc r] [] (possPost 7 m r) := by
  refine CtrO.mk' Try.func65 ca65 cc65 cr65 (Nat.le_of_ble_eq_true rfl) (Nat.le_of_ble_eq_true rfl) (fun m hm => by simp [isIn, lookO] at hm) (fun hwf W0 D0 E1 => ?_)
  simp only [c65, r65, idx, Nat.zero_add, Nat.reduceAdd]
  refine AW.seq (AW.reg cd65_0 fun K hK => ?_)
  simp only [g65_0, bR, Nat.reduceEqDiff, reduceIte, Int.reduceBNe, Int.reduceBEq]
  simp only [e_isVal, bR, Nat.reduceEqDiff, reduceIte, Int.reduceBNe, Int.reduceBEq]
  refine .done (hK _ ?_); clear hK K; simp only [thenQ, blockQ]
  refine AW.seq (AW.reg cd65_1 fun K hK => ?_)
  simp only [g65_1, bR, Nat.reduceEqDiff, reduceIte, Int.reduceBNe, Int.reduceBEq]
  simp only [typR, useR, okR, e_fin, bR, Nat.reduceEqDiff, reduceIte, Int.reduceBNe, Int.reduceBEq]
  refine .obj false [(7, 7)] [] [enc m.given] (clonePost m.given) rfl (F85 m.given hlen) Gvn.nil ⟨.inl ⟨(e_ren _ _).symm, e_only _ _, e_isVal _⟩, trivial⟩ ?_ ?_
  · rintro x os' (⟨_, h | h, rfl⟩ | ⟨_, k, rfl, rfl⟩)
    · subst h; exact Bck.nil (fun _ => rfl) (fun h => by cases h)
    · subst h; exact Bck.nil (fun _ => rfl) (fun h => by cases h)
    · exact Bck.new1 (fun p => map_only p _) (fun h => by cases h) rfl (fun h => by cases h) rfl (by decide)
  · have hd : AV.dones [.ref (enc m), .ref (enc r)] = true := by simp only [AV.dones, AV.done, e_closed, Bool.and_self]
    rintro x os' (⟨hn, h, rfl⟩ | ⟨hn, k, rfl, rfl⟩)
    · have hp : possG m r = [] := by simp [possG, keep, hn]
      have key : ∀ x, (x = .nils 7 ∨ x = .c0 7) → fin true (mkA [] []) x = some (enc ([] : List Given)) := by rintro x (rfl | rfl) <;> rfl
      have hren : ∀ x : AV, (x = .nils 7 ∨ x = .c0 7) → x.ren (rnm [(7, 7)]) = x ∧ x.isVal = true := by rintro x (rfl | rfl) <;> exact ⟨by simp only [AV.ren], rfl⟩
      rw [(hren x h).1]
      simp only [renR, List.nil_append, List.all_cons, List.all_nil, AV.isVal, Bool.and_self, bR, Nat.reduceEqDiff, reduceIte, Int.reduceBNe, Int.reduceBEq]
      have hfx : ∀ A, fin true A x = some (enc ([] : List Given)) := fun A => by rcases h with rfl | rfl <;> simp only [fin, e_list, List.map_nil] <;> rfl
      refine .free [2, 3] (enc ([] : List Given)) rfl (F73n 105 [.ref (enc m), .ref (enc r)] hd) ?_ ?_ ?_
      · simp only [hfx, keepO, List.filter_cons, List.filter_nil, List.contains_cons, Nat.reduceBEq, Bool.or_false, Bool.or_true, Bool.true_or, BEq.rfl, e_closed, bR, Nat.reduceEqDiff, reduceIte, Int.reduceBNe, Int.reduceBEq]
      · simp [dropO, onlyO]
      · simp only [fgt, dropO, List.filter_cons, List.filter_nil, List.contains_cons, Nat.reduceBEq, Bool.or_false, Bool.or_true, Bool.true_or, BEq.rfl, List.map_cons, List.map_nil, bR, Nat.reduceEqDiff, reduceIte, Int.reduceBNe, Int.reduceBEq]
        refine .done (hK _ ?_); clear hK K; simp only [thenQ, blockQ]
        refine AW.ret ?_
        simp only [blockQ, thenQ, retO_ret]
        exact ⟨[], [enc ([] : List Given)], held0, ⟨⟨_, rfl, .inl ⟨rfl, rfl, rfl⟩⟩, trivial⟩, .inl ⟨hp, rfl, rfl⟩⟩
    · simp only [rowG, renR, rens_map_enc, List.cons_append, List.nil_append, List.all_cons, List.all_nil, AV.isVal, Bool.and_self, bR, Nat.reduceEqDiff, reduceIte, Int.reduceBNe, Int.reduceBEq]
      refine .obj true [(1000000, 7)] (rowG 1000000 m.given k) [.view 1000000 [] 7 0 m.given.length, .func 105 [.ref (enc m), .ref (enc r)]] (delPost 1000000 (possG m r)) rfl
        (F73 m.given 105 [.ref (enc m), .ref (enc r)] hd (fun g => decide (m.fls < costOf m.wear g.mark r)) (fun g hg => F105 m r g (hm g hg)) hlen k) ⟨?_, ?_⟩ ⟨.inl ⟨?_, ?_, rfl⟩, .inr ?_, trivial⟩ ?_ ?_
      · intro n x h
        simp only [rowG, lookO] at h
        split at h
        · rename_i hn'
          subst hn'
          simp only [Option.some.injEq] at h
          subst h
          exact ⟨by simp only [renR, rens_map_enc, bR, Nat.reduceEqDiff, reduceIte, Int.reduceBNe, Int.reduceBEq], map_only _ _, rfl⟩
        · cases h
      · intro a b ha hb _
        rw [isIn_one.1 ha, isIn_one.1 hb]
      · simp only [renR, bR, Nat.reduceEqDiff, reduceIte, Int.reduceBNe, Int.reduceBEq]
      · exact isIn_one.2 rfl
      · simp only [names, rowG, rnm, dropO, List.filter_cons, List.filter_nil, List.map_cons, List.map_nil, List.contains_cons, List.contains_nil, Nat.reduceBEq, Bool.or_false, Bool.or_true, Bool.true_or, BEq.rfl, e_closed, bR, Nat.reduceEqDiff, reduceIte, Int.reduceBNe, Int.reduceBEq]
      · rintro x os' ⟨k', rfl, rfl⟩
        exact Bck.one (fun p => map_only p _) (fun _ => map_lean _) (isIn_one.2 rfl) (fun _ => rfl)
      · rintro x os' ⟨k', rfl, rfl⟩
        simp only [rowG, renR, rens_map_enc, List.cons_append, List.nil_append, bR, Nat.reduceEqDiff, reduceIte, Int.reduceBNe, Int.reduceBEq]
        refine .done (hK _ ?_); clear hK K; simp only [thenQ, blockQ]
        refine AW.ret ?_
        simp only [blockQ, thenQ, retO_ret]
        exact ⟨rowG 7 (possG m r) k', [.view 7 [] 7 0 (possG m r).length], held1 rfl (fun p => map_only p _), ⟨⟨_, rfl, .inl ⟨rfl, rfl, rfl⟩⟩, trivial⟩, .inr ⟨k', rfl, rfl⟩⟩
end Go.Proofs.Ytkjkbpgdpnapfaa

/-
  FUNCTIONS OF THE PACKAGE mark BY CONTRACT: owners, Owners, Owner.
-/
namespace Go.Proofs.Ytkjkbpgdpnapfaa
open Go Go.Abs
open Go.Abs.Enc (enc)
def ownL (l : List Given) (i : Nat) : List Int := (l.take i).map (·.owner)
theorem ownL_zero (l : List Given) : ownL l 0 = [] := by simp [ownL]
theorem ownL_succ {l : List Given} {i : Nat} (h : i < l.length) : ownL l (i + 1) = ownL l i ++ [l[i].owner] := by
  simp only [ownL]; rw [List.take_succ_eq_append_getElem h, List.map_append]; rfl
theorem ownL_len {l : List Given} {i : Nat} (h : i ≤ l.length) : (ownL l i).length = i := by simp [ownL]; omega
theorem ownL_all (l : List Given) : ownL l l.length = l.map (·.owner) := by simp [ownL]
theorem F72 (l : List Given) (hlen : l.length ≤ 1000) : Ctr Try.prog 72 [enc l] (enc (l.map (·.owner))) := by
  refine Ctr.mk' Try.func72 ca72 cc72 cr72 (Nat.le_of_ble_eq_true rfl) (fun hwf W0 D0 E1 => ?_)
  simp only [c72, r72, idx, Nat.zero_add, Nat.reduceAdd]
  refine AW.seq (AW.reg cd72_0 fun K hK => ?_)
  simp only [g72_0, bR, Nat.reduceEqDiff, reduceIte, Int.reduceBNe, Int.reduceBEq]
  refine .done (hK _ ?_); clear hK K; simp only [thenQ, blockQ]
  refine AW.seq (AW.reg cd72_1 fun K hK => ?_)
  simp only [g72_1, bR, Nat.reduceEqDiff, reduceIte, Int.reduceBNe, Int.reduceBEq]
  refine .done (hK _ ?_); clear hK K; simp only [thenQ, blockQ]
  refine AW.seq ?_
  refine AW.seq (AW.reg cd72_2 fun K hK => ?_)
  simp only [g72_2, useR, bR, Nat.reduceEqDiff, reduceIte, Int.reduceBNe, Int.reduceBEq]
  refine .done (hK _ ?_); clear hK K; simp only [thenQ, blockQ]
  refine AW.block (AW.loop (fun i : Nat => mkA [(3, .own 3 (ownL l i).length), (6, enc l), (7, .int .i64 l.length), (8, .int .i64 i)] [(3, .row 3 1 ((ownL l i).map enc))]) (fun i => i ≤ l.length) (fun i => l.length - i) 0 (Nat.zero_le _) ?_ (fun i hi => ?_))
  · refine Sub.adoptL 3 3 3 1 1 ?_ ?_ ?_
    · simp only [absR, Nat.reduceEqDiff, reduceIte]
    · simp only [absR]
    · simp only [ownL_zero, List.map_nil, List.length_nil]
      refine Sub.of_lists ?_ ?_ ?_ ?_ <;> simp [subT, subO, onlyT, onlyO, isIn, look_cons, lookO_cons, lookO_nil, AV.only, AV.onlys, AO.only, onlys_map, onlys_append, e_only, e_int, e_bool]
  · refine AW.seq (AW.reg cd72_3 fun K hK => ?_)
    simp only [g72_3, bR, Nat.reduceEqDiff, reduceIte, Int.reduceBNe, Int.reduceBEq]
    refine .done (hK _ ?_); clear hK K; simp only [thenQ, blockQ]
    refine AW.seq ?_
    refine AW.ite ?_
    simp only [condQ, bR, Nat.reduceEqDiff, reduceIte, Int.reduceBNe, Int.reduceBEq]
    refine ⟨fun h => ?_, fun h => ?_⟩
    · have hlt : i < l.length := by simpa using h
      refine AW.skip ?_; simp only [thenQ, blockQ, reduceIte, Nat.reduceEqDiff]
      refine AW.seq (AW.block ?_)
      refine AW.seq (AW.reg cd72_4 fun K hK => ?_)
      simp only [g72_4, bR, Nat.reduceEqDiff, reduceIte, Int.reduceBNe, Int.reduceBEq]
      simp only [isE_nat 7 hlt rfl, typR, okR, bR, Nat.reduceEqDiff, reduceIte, Int.reduceBNe, Int.reduceBEq]
      rw [stR3_ok (e_isVal _) (by rw [e_okS]; rfl) ((e_sh _).trans rfl)]
      simp only [typR, useR, okR, bR, Nat.reduceEqDiff, reduceIte, Int.reduceBNe, Int.reduceBEq]
      refine .done (hK _ ?_); clear hK K; simp only [thenQ, blockQ]
      refine AW.reg cd72_5 fun K hK => ?_
      simp only [g72_5, bR, Nat.reduceEqDiff, reduceIte, Int.reduceBNe, Int.reduceBEq]
      simp only [typR, useR, okR, bR, Nat.reduceEqDiff, reduceIte, Int.reduceBNe, Int.reduceBEq]
      rw [appR3_enc 3 1 8 3 rfl rfl (by simp) (by simp [maxLen, ownL_len hi]; omega) (by simp [ownL_len hi]; omega)]
      simp only [bR, Nat.reduceEqDiff, reduceIte, Int.reduceBNe, Int.reduceBEq]
      refine .done (hK _ ?_); clear hK K; simp only [thenQ, blockQ]
      refine AW.reg cd72_6 fun K hK => ?_
      simp only [g72_6, bR, Nat.reduceEqDiff, reduceIte, Int.reduceBNe, Int.reduceBEq]
      refine .done (hK _ ?_); clear hK K; simp only [thenQ, blockQ]
      refine ⟨i + 1, by omega, by omega, ?_⟩
      rw [wrap_id _ (by omega) (by omega), ownL_succ hlt]
      refine Sub.of_lists ?_ ?_ ?_ ?_ <;> simp [subT, subO, onlyT, onlyO, isIn, look_cons, lookO_cons, lookO_nil, AV.only, AV.onlys, AO.only, onlys_map, onlys_append, e_only, e_int, e_bool]
    · have hge : i = l.length := by simp at h; omega
      subst hge
      refine AW.exit ?_; simp only [thenQ, blockQ, reduceIte, Nat.reduceEqDiff]
      refine AW.seq (AW.reg cd72_7 fun K hK => ?_)
      simp only [g72_7, bR, Nat.reduceEqDiff, reduceIte, Int.reduceBNe, Int.reduceBEq]
      refine .done (hK _ ?_); clear hK K; simp only [thenQ, blockQ]
      refine AW.ret ?_
      simp only [blockQ, thenQ, ownL_all, bR, Nat.reduceEqDiff, reduceIte, Int.reduceBNe, Int.reduceBEq]
theorem possG_owners (m : Marks) (r : Arr 6 Int) : (possG m r).map (·.owner) = ownersIn m r m.given := by
  simp only [possG, keep, ownersIn]
  congr 1
  refine List.filter_congr fun g _ => ?_
  by_cases h : m.fls < costOf m.wear g.mark r
  · have : ¬ costOf m.wear g.mark r ≤ m.fls := by omega
    simp [h, this]
  · have : costOf m.wear g.mark r ≤ m.fls := by omega
    simp [h, this]
theorem F26 (m : Marks) (r : Arr 6 Int) : Ctr Try.prog 26 [enc m, enc r] (.tuple [enc (ownersOf m r).1, enc (ownersOf m r).2]) := by
  refine Ctr.mk' Try.func26 ca26 cc26 cr26 (Nat.le_of_ble_eq_true rfl) (fun hwf W0 D0 E1 => ?_)
  simp only [c26, r26, idx, Nat.zero_add, Nat.reduceAdd]
  refine AW.seq (AW.reg cd26_0 fun K hK => ?_)
  simp only [g26_0, bR, Nat.reduceEqDiff, reduceIte, Int.reduceBNe, Int.reduceBEq]
  simp only [e_isVal, bR, Nat.reduceEqDiff, reduceIte, Int.reduceBNe, Int.reduceBEq]
  refine .done (hK _ ?_); clear hK K; simp only [thenQ, blockQ]
  refine AW.seq ?_
  refine AW.seq (AW.reg cd26_1 fun K hK => ?_)
  simp only [g26_1, bR, Nat.reduceEqDiff, reduceIte, Int.reduceBNe, Int.reduceBEq]
  simp only [typR, useR, okR, e_fin, bR, Nat.reduceEqDiff, reduceIte, Int.reduceBNe, Int.reduceBEq]
  refine .flat _ (F47 m) rfl ?_
  simp only [typR, useR, okR, e_fin, bR, Nat.reduceEqDiff, reduceIte, Int.reduceBNe, Int.reduceBEq]
  refine .flat _ (F45 r) rfl ?_
  simp only [typR, useR, okR, e_fin, bs2, bR, Nat.reduceEqDiff, reduceIte, Int.reduceBNe, Int.reduceBEq]
  refine .flat _ (F64 _) rfl ?_
  rw [first2 _ _ 13 12 (by decide) (by decide)]
  simp only [bR, Nat.reduceEqDiff, reduceIte, Int.reduceBNe, Int.reduceBEq]
  refine .done (hK _ ?_); clear hK K; simp only [thenQ, blockQ]
  generalize hw : okM m = bw
  generalize hr : okReading r = br
  cases bw
  · refine AW.seq (AW.reg cd26_2 fun K hK => ?_)
    simp only [g26_2, bR, Nat.reduceEqDiff, reduceIte, Int.reduceBNe, Int.reduceBEq]
    refine .done (hK _ ?_); clear hK K; simp only [thenQ, blockQ]
    refine AW.ite ?_
    simp only [condQ, bR, Nat.reduceEqDiff, reduceIte, Int.reduceBNe, Int.reduceBEq]
    refine ⟨fun h => ?_, fun h => ?_⟩
    · refine AW.seq (AW.reg cd26_3 fun K hK => ?_)
      simp only [g26_3, bR, Nat.reduceEqDiff, reduceIte, Int.reduceBNe, Int.reduceBEq]
      refine .done (hK _ ?_); clear hK K; simp only [thenQ, blockQ]
      refine AW.ret ?_
      simp only [blockQ, thenQ, bR, Nat.reduceEqDiff, reduceIte, Int.reduceBNe, Int.reduceBEq]
      simp [ownersOf, hw, nilInt]
    · cases h
  cases br
  · refine AW.seq (AW.reg cd26_2 fun K hK => ?_)
    simp only [g26_2, bR, Nat.reduceEqDiff, reduceIte, Int.reduceBNe, Int.reduceBEq]
    refine .done (hK _ ?_); clear hK K; simp only [thenQ, blockQ]
    refine AW.ite ?_
    simp only [condQ, bR, Nat.reduceEqDiff, reduceIte, Int.reduceBNe, Int.reduceBEq]
    refine ⟨fun h => ?_, fun h => ?_⟩
    · refine AW.seq (AW.reg cd26_3 fun K hK => ?_)
      simp only [g26_3, bR, Nat.reduceEqDiff, reduceIte, Int.reduceBNe, Int.reduceBEq]
      refine .done (hK _ ?_); clear hK K; simp only [thenQ, blockQ]
      refine AW.ret ?_
      simp only [blockQ, thenQ, bR, Nat.reduceEqDiff, reduceIte, Int.reduceBNe, Int.reduceBEq]
      simp [ownersOf, hw, hr, nilInt]
    · cases h
  refine AW.seq (AW.reg cd26_2 fun K hK => ?_)
  simp only [g26_2, bR, Nat.reduceEqDiff, reduceIte, Int.reduceBNe, Int.reduceBEq]
  refine .done (hK _ ?_); clear hK K; simp only [thenQ, blockQ]
  refine AW.ite ?_
  simp only [condQ, bR, Nat.reduceEqDiff, reduceIte, Int.reduceBNe, Int.reduceBEq]
  refine ⟨fun h => ?_, fun h => ?_⟩
  · cases h
  refine AW.skip ?_; simp only [thenQ, blockQ, reduceIte, Nat.reduceEqDiff]
  have hlen : m.given.length ≤ 1000 := by have := okM_len hw; omega
  have hpl : (possG m r).length ≤ 1000 := Nat.le_trans (List.length_filter_le _ _) hlen
  refine AW.seq (AW.reg cd26_4 fun K hK => ?_)
  simp only [g26_4, bR, Nat.reduceEqDiff, reduceIte, Int.reduceBNe, Int.reduceBEq]
  simp only [typR, useR, okR, e_fin, bR, Nat.reduceEqDiff, reduceIte, Int.reduceBNe, Int.reduceBEq]
  refine .obj false [(7, 18)] [] [enc m, enc r] (possPost 7 m r) rfl (F65 m r (okM_mark hw) hlen) Gvn.nil ⟨.inl ⟨(e_ren _ _).symm, e_only _ _, e_isVal _⟩, .inl ⟨(e_ren _ _).symm, e_only _ _, e_isVal _⟩, trivial⟩ ?_ ?_
  · rintro x os' (⟨_, rfl, rfl⟩ | ⟨k, rfl, rfl⟩)
    · exact Bck.nil (fun _ => rfl) (fun h => by cases h)
    · exact Bck.new1 (fun p => map_only p _) (fun h => by cases h) rfl (fun h => by cases h) rfl (by decide)
  · rintro x os' (⟨hp, rfl, rfl⟩ | ⟨k, rfl, rfl⟩)
    · simp only [e_ren, renR, List.nil_append, e_fin, bR, Nat.reduceEqDiff, reduceIte, Int.reduceBNe, Int.reduceBEq]
      refine .lead _ (F72 [] (by simp)) ?_
      simp only [List.map_nil, bR, Nat.reduceEqDiff, reduceIte, Int.reduceBNe, Int.reduceBEq]
      refine .done (hK _ ?_); clear hK K; simp only [thenQ, blockQ]
      refine AW.ret ?_
      simp only [blockQ, thenQ, bR, Nat.reduceEqDiff, reduceIte, Int.reduceBNe, Int.reduceBEq]
      simp only [e_fin, bR, Nat.reduceEqDiff, reduceIte, Int.reduceBNe, Int.reduceBEq]
      simp [ownersOf, hw, hr, ← possG_owners, hp]
    · simp only [rowG, renR, rens_map_enc, List.cons_append, List.nil_append, bR, Nat.reduceEqDiff, reduceIte, Int.reduceBNe, Int.reduceBEq]
      refine .free [18] _ rfl (F72 (possG m r) hpl) ?_ ?_ ?_
      · simp only [keepO, List.filter_cons, List.filter_nil, List.contains_cons, List.contains_nil, Nat.reduceBEq, Bool.or_false, Bool.or_true, Bool.true_or, BEq.rfl, finV_take (α := Given) (sz := 7) rfl, take_row, bR, Nat.reduceEqDiff, reduceIte, Int.reduceBNe, Int.reduceBEq]
      · simp [dropO, onlyO, AO.only, e_only]
      · simp only [fgt, dropO, List.filter_cons, List.filter_nil, List.contains_cons, List.contains_nil, Nat.reduceBEq, Bool.or_false, Bool.or_true, Bool.true_or, BEq.rfl, AV.only, e_only, bR, Nat.reduceEqDiff, reduceIte, Int.reduceBNe, Int.reduceBEq]
        refine .done (hK _ ?_); clear hK K; simp only [thenQ, blockQ]
        refine AW.ret ?_
        simp only [blockQ, thenQ, bR, Nat.reduceEqDiff, reduceIte, Int.reduceBNe, Int.reduceBEq]
        simp only [e_fin, bR, Nat.reduceEqDiff, reduceIte, Int.reduceBNe, Int.reduceBEq]
        simp [ownersOf, hw, hr, possG_owners]
end Go.Proofs.Ytkjkbpgdpnapfaa

/-
  FUNCTIONS OF mark BY CONTRACT: arePlaces, list; of cmp and slices: Compare.
-/
namespace Go.Proofs.Ytkjkbpgdpnapfaa
open Go Go.Abs
open Go.Abs.Enc (enc)
theorem F123 (x : Int) : Ctr Try.prog 123 [enc x] (enc false) := by
  refine Ctr.mk' Try.func123 ca123 cc123 cr123 (Nat.le_of_ble_eq_true rfl) (fun hwf W0 D0 E1 => ?_)
  simp only [c123, r123, idx, Nat.zero_add, Nat.reduceAdd]
  refine AW.seq (AW.reg cd123_0 fun K hK => ?_)
  simp only [g123_0, bR, Nat.reduceEqDiff, reduceIte, Int.reduceBNe, Int.reduceBEq]
  refine .done (hK _ ?_); clear hK K; simp only [thenQ, blockQ]
  refine AW.seq (AW.reg cd123_1 fun K hK => ?_)
  simp only [g123_1, bR, Nat.reduceEqDiff, reduceIte, Int.reduceBNe, Int.reduceBEq]
  refine .done (hK _ ?_); clear hK K; simp only [thenQ, blockQ]
  refine AW.ret ?_
  simp only [blockQ, thenQ, bR, Nat.reduceEqDiff, reduceIte, Int.reduceBNe, Int.reduceBEq]
  simp
def cmpI (x y : Int) : Int := if x < y then -1 else if y < x then 1 else 0
theorem F106 (x y : Int) : Ctr Try.prog 106 [enc x, enc y] (enc (cmpI x y)) := by
  refine Ctr.mk' Try.func106 ca106 cc106 cr106 (Nat.le_of_ble_eq_true rfl) (fun hwf W0 D0 E1 => ?_)
  simp only [c106, r106, idx, Nat.zero_add, Nat.reduceAdd]
  refine AW.seq (AW.reg cd106_0 fun K hK => ?_)
  simp only [g106_0, bR, Nat.reduceEqDiff, reduceIte, Int.reduceBNe, Int.reduceBEq]
  refine .done (hK _ ?_); clear hK K; simp only [thenQ, blockQ]
  refine AW.seq (AW.reg cd106_1 fun K hK => ?_)
  simp only [g106_1, bR, Nat.reduceEqDiff, reduceIte, Int.reduceBNe, Int.reduceBEq]
  refine .flat _ (F123 x) rfl ?_
  try simp only [typR, useR, okR, e_fin, bR, Nat.reduceEqDiff, reduceIte, Int.reduceBNe, Int.reduceBEq]
  refine .done (hK _ ?_); clear hK K; simp only [thenQ, blockQ]
  refine AW.seq (AW.reg cd106_2 fun K hK => ?_)
  simp only [g106_2, bR, Nat.reduceEqDiff, reduceIte, Int.reduceBNe, Int.reduceBEq]
  refine .flat _ (F123 y) rfl ?_
  try simp only [typR, useR, okR, e_fin, bR, Nat.reduceEqDiff, reduceIte, Int.reduceBNe, Int.reduceBEq]
  refine .done (hK _ ?_); clear hK K; simp only [thenQ, blockQ]
  refine AW.seq ?_
  refine AW.seq (AW.reg cd106_3 fun K hK => ?_)
  simp only [g106_3, bR, Nat.reduceEqDiff, reduceIte, Int.reduceBNe, Int.reduceBEq]
  refine .done (hK _ ?_); clear hK K; simp only [thenQ, blockQ]
  refine AW.ite ?_
  simp only [condQ, bR, Nat.reduceEqDiff, reduceIte, Int.reduceBNe, Int.reduceBEq]
  refine ⟨fun h => ?_, fun h => ?_⟩
  · cases h
  refine AW.skip ?_; simp only [thenQ, blockQ, reduceIte, Nat.reduceEqDiff]
  refine AW.seq ?_
  refine AW.seq (AW.reg cd106_7 fun K hK => ?_)
  simp only [g106_7, bR, Nat.reduceEqDiff, reduceIte, Int.reduceBNe, Int.reduceBEq]
  refine .done (hK _ ?_); clear hK K; simp only [thenQ, blockQ]
  refine AW.ite ?_
  simp only [condQ, bR, Nat.reduceEqDiff, reduceIte, Int.reduceBNe, Int.reduceBEq]
  refine ⟨fun h => ?_, fun h => ?_⟩
  · cases h
  refine AW.skip ?_; simp only [thenQ, blockQ, reduceIte, Nat.reduceEqDiff]
  refine AW.seq ?_
  refine AW.seq (AW.reg cd106_9 fun K hK => ?_)
  simp only [g106_9, bR, Nat.reduceEqDiff, reduceIte, Int.reduceBNe, Int.reduceBEq]
  refine .done (hK _ ?_); clear hK K; simp only [thenQ, blockQ]
  refine AW.ite ?_
  simp only [condQ, bR, Nat.reduceEqDiff, reduceIte, Int.reduceBNe, Int.reduceBEq]
  refine ⟨fun h => ?_, fun h => ?_⟩
  · refine AW.seq (AW.reg cd106_10 fun K hK => ?_)
    simp only [g106_10, bR, Nat.reduceEqDiff, reduceIte, Int.reduceBNe, Int.reduceBEq]
    refine .done (hK _ ?_); clear hK K; simp only [thenQ, blockQ]
    refine AW.ret ?_
    simp only [blockQ, thenQ, bR, Nat.reduceEqDiff, reduceIte, Int.reduceBNe, Int.reduceBEq]
    have : x < y := by simpa using h
    simp [cmpI, this, e_int]
  have h1 : ¬ x < y := by simpa using h
  refine AW.skip ?_; simp only [thenQ, blockQ, reduceIte, Nat.reduceEqDiff]
  refine AW.seq ?_
  refine AW.seq (AW.reg cd106_11 fun K hK => ?_)
  simp only [g106_11, bR, Nat.reduceEqDiff, reduceIte, Int.reduceBNe, Int.reduceBEq]
  refine .done (hK _ ?_); clear hK K; simp only [thenQ, blockQ]
  refine AW.ite ?_
  simp only [condQ, bR, Nat.reduceEqDiff, reduceIte, Int.reduceBNe, Int.reduceBEq]
  refine ⟨fun h => ?_, fun h => ?_⟩
  · refine AW.seq (AW.reg cd106_12 fun K hK => ?_)
    simp only [g106_12, bR, Nat.reduceEqDiff, reduceIte, Int.reduceBNe, Int.reduceBEq]
    refine .done (hK _ ?_); clear hK K; simp only [thenQ, blockQ]
    refine AW.ret ?_
    simp only [blockQ, thenQ, bR, Nat.reduceEqDiff, reduceIte, Int.reduceBNe, Int.reduceBEq]
    have : y < x := by simpa using h
    simp [cmpI, this, h1, e_int]
  have h2 : ¬ y < x := by simpa using h
  refine AW.skip ?_; simp only [thenQ, blockQ, reduceIte, Nat.reduceEqDiff]
  refine AW.seq (AW.reg cd106_13 fun K hK => ?_)
  simp only [g106_13, bR, Nat.reduceEqDiff, reduceIte, Int.reduceBNe, Int.reduceBEq]
  refine .done (hK _ ?_); clear hK K; simp only [thenQ, blockQ]
  refine AW.ret ?_
  simp only [blockQ, thenQ, bR, Nat.reduceEqDiff, reduceIte, Int.reduceBNe, Int.reduceBEq]
  simp [cmpI, h1, h2, e_int]
def cmpL : List Int → List Int → Int
  | [], [] => 0
  | [], _ :: _ => -1
  | _ :: _, [] => 1
  | a :: x, b :: y => if cmpI a b = 0 then cmpL x y else cmpI a b
theorem cmpL_drop {a b : List Int} {i : Nat} (ha : i < a.length) (hb : i < b.length) : cmpL (a.drop i) (b.drop i) = if cmpI (a.getD i 0) (b.getD i 0) = 0 then cmpL (a.drop (i + 1)) (b.drop (i + 1)) else cmpI (a.getD i 0) (b.getD i 0) := by
  rw [List.drop_eq_getElem_cons ha, List.drop_eq_getElem_cons hb]
  simp only [cmpL, List.getD_eq_getElem?_getD, List.getElem?_eq_getElem ha, List.getElem?_eq_getElem hb, Option.getD_some]
theorem F66 (a b : List Int) : Ctr Try.prog 66 [enc a, enc b] (enc (cmpL a b)) := by
  refine Ctr.mk' Try.func66 ca66 cc66 cr66 (Nat.le_of_ble_eq_true rfl) (fun hwf W0 D0 E1 => ?_)
  simp only [c66, r66, idx, Nat.zero_add, Nat.reduceAdd]
  have hlen : a.length ≤ maxLen := ((wf_list a).1 hwf.1).1
  have hlen2 : b.length ≤ maxLen := ((wf_list b).1 hwf.2.1).1
  simp only [maxLen] at hlen hlen2
  refine AW.seq (AW.reg cd66_0 fun K hK => ?_)
  simp only [g66_0, bR, Nat.reduceEqDiff, reduceIte, Int.reduceBNe, Int.reduceBEq]
  refine .done (hK _ ?_); clear hK K; simp only [thenQ, blockQ]
  refine AW.seq ?_
  refine AW.seq (AW.reg cd66_1 fun K hK => ?_)
  simp only [g66_1, bR, Nat.reduceEqDiff, reduceIte, Int.reduceBNe, Int.reduceBEq]
  try simp only [typR, useR, okR, e_fin, bR, Nat.reduceEqDiff, reduceIte, Int.reduceBNe, Int.reduceBEq]
  refine .done (hK _ ?_); clear hK K; simp only [thenQ, blockQ]
  refine AW.block (AW.loop (fun i : Nat => mkA [(0, enc a), (1, enc b), (9, enc a), (10, .int .i64 a.length), (11, .int .i64 i)] []) (fun i => i ≤ a.length ∧ i ≤ b.length ∧ cmpL a b = cmpL (a.drop i) (b.drop i)) (fun i => a.length - i) 0 ⟨by omega, by omega, rfl⟩ ?_ (fun i hi => ?_))
  · refine Sub.of_lists ?_ ?_ ?_ ?_ <;> simp [subT, subO, onlyT, onlyO, isIn, look_cons, lookO_cons, lookO_nil, AV.only, AV.onlys, AO.only, onlys_map, onlys_append, e_only, e_int, e_bool]
  obtain ⟨hi1, hi2, hi3⟩ := hi
  refine AW.seq (AW.reg cd66_2 fun K hK => ?_)
  simp only [g66_2, bR, Nat.reduceEqDiff, reduceIte, Int.reduceBNe, Int.reduceBEq]
  refine .done (hK _ ?_); clear hK K; simp only [thenQ, blockQ]
  refine AW.seq ?_
  refine AW.ite ?_
  simp only [condQ, bR, Nat.reduceEqDiff, reduceIte, Int.reduceBNe, Int.reduceBEq]
  refine ⟨fun h => ?_, fun h => ?_⟩
  case refine_2.refine_2 =>
    have hge : i = a.length := by simp at h; omega
    subst hge
    refine AW.exit ?_; simp only [thenQ, blockQ, reduceIte, Nat.reduceEqDiff]
    refine AW.seq ?_
    refine AW.seq (AW.reg cd66_11 fun K hK => ?_)
    simp only [g66_11, bR, Nat.reduceEqDiff, reduceIte, Int.reduceBNe, Int.reduceBEq]
    try simp only [typR, useR, okR, e_fin, bR, Nat.reduceEqDiff, reduceIte, Int.reduceBNe, Int.reduceBEq]
    refine .done (hK _ ?_); clear hK K; simp only [thenQ, blockQ]
    rw [List.drop_length] at hi3
    refine AW.ite ?_
    simp only [condQ, bR, Nat.reduceEqDiff, reduceIte, Int.reduceBNe, Int.reduceBEq]
    refine ⟨fun h => ?_, fun h => ?_⟩
    · refine AW.seq (AW.reg cd66_12 fun K hK => ?_)
      simp only [g66_12, bR, Nat.reduceEqDiff, reduceIte, Int.reduceBNe, Int.reduceBEq]
      refine .done (hK _ ?_); clear hK K; simp only [thenQ, blockQ]
      refine AW.ret ?_
      simp only [blockQ, thenQ, bR, Nat.reduceEqDiff, reduceIte, Int.reduceBNe, Int.reduceBEq]
      have hlt : a.length < b.length := by simp at h; omega
      rw [hi3, List.drop_eq_getElem_cons hlt]
      rfl
    · refine AW.skip ?_; simp only [thenQ, blockQ, reduceIte, Nat.reduceEqDiff]
      refine AW.seq (AW.reg cd66_13 fun K hK => ?_)
      simp only [g66_13, bR, Nat.reduceEqDiff, reduceIte, Int.reduceBNe, Int.reduceBEq]
      refine .done (hK _ ?_); clear hK K; simp only [thenQ, blockQ]
      refine AW.ret ?_
      simp only [blockQ, thenQ, bR, Nat.reduceEqDiff, reduceIte, Int.reduceBNe, Int.reduceBEq]
      have hge : b.length ≤ a.length := by simp at h; omega
      rw [hi3, List.drop_of_length_le hge]
      rfl
  have hlt : i < a.length := by simp at h; omega
  refine AW.skip ?_; simp only [thenQ, blockQ, reduceIte, Nat.reduceEqDiff]
  refine AW.seq (AW.block ?_)
  refine AW.seq (AW.reg cd66_3 fun K hK => ?_)
  simp only [g66_3, bR, Nat.reduceEqDiff, reduceIte, Int.reduceBNe, Int.reduceBEq]
  simp only [typR, useR, okR, isE_getD hlt, bR, Nat.reduceEqDiff, reduceIte, Int.reduceBNe, Int.reduceBEq]
  refine .done (hK _ ?_); clear hK K; simp only [thenQ, blockQ]
  refine AW.seq ?_
  refine AW.seq (AW.reg cd66_4 fun K hK => ?_)
  simp only [g66_4, bR, Nat.reduceEqDiff, reduceIte, Int.reduceBNe, Int.reduceBEq]
  try simp only [typR, useR, okR, e_fin, bR, Nat.reduceEqDiff, reduceIte, Int.reduceBNe, Int.reduceBEq]
  refine .done (hK _ ?_); clear hK K; simp only [thenQ, blockQ]
  refine AW.ite ?_
  simp only [condQ, bR, Nat.reduceEqDiff, reduceIte, Int.reduceBNe, Int.reduceBEq]
  refine ⟨fun h => ?_, fun h => ?_⟩
  · have hge : i = b.length := by simp at h; omega
    refine AW.seq (AW.reg cd66_5 fun K hK => ?_)
    simp only [g66_5, bR, Nat.reduceEqDiff, reduceIte, Int.reduceBNe, Int.reduceBEq]
    refine .done (hK _ ?_); clear hK K; simp only [thenQ, blockQ]
    refine AW.ret ?_
    simp only [blockQ, thenQ, bR, Nat.reduceEqDiff, reduceIte, Int.reduceBNe, Int.reduceBEq]
    rw [hi3, List.drop_of_length_le (l := b) (by omega), List.drop_eq_getElem_cons hlt]
    rfl
  have hlb : i < b.length := by simp at h; omega
  refine AW.skip ?_; simp only [thenQ, blockQ, reduceIte, Nat.reduceEqDiff]
  refine AW.seq (AW.reg cd66_6 fun K hK => ?_)
  simp only [g66_6, bR, Nat.reduceEqDiff, reduceIte, Int.reduceBNe, Int.reduceBEq]
  simp only [typR, useR, okR, isE_getD hlb, bR, Nat.reduceEqDiff, reduceIte, Int.reduceBNe, Int.reduceBEq]
  refine .done (hK _ ?_); clear hK K; simp only [thenQ, blockQ]
  refine AW.seq (AW.reg cd66_7 fun K hK => ?_)
  simp only [g66_7, bR, Nat.reduceEqDiff, reduceIte, Int.reduceBNe, Int.reduceBEq]
  try simp only [typR, useR, okR, e_fin, bR, Nat.reduceEqDiff, reduceIte, Int.reduceBNe, Int.reduceBEq]
  refine .flat _ (F106 (a.getD i 0) (b.getD i 0)) rfl ?_
  try simp only [typR, useR, okR, e_fin, bR, Nat.reduceEqDiff, reduceIte, Int.reduceBNe, Int.reduceBEq]
  refine .done (hK _ ?_); clear hK K; simp only [thenQ, blockQ]
  refine AW.seq (AW.reg cd66_8 fun K hK => ?_)
  simp only [g66_8, bR, Nat.reduceEqDiff, reduceIte, Int.reduceBNe, Int.reduceBEq]
  refine .done (hK _ ?_); clear hK K; simp only [thenQ, blockQ]
  rw [cmpL_drop hlt hlb] at hi3
  refine AW.ite ?_
  simp only [condQ, bR, Nat.reduceEqDiff, reduceIte, Int.reduceBNe, Int.reduceBEq]
  refine ⟨fun h => ?_, fun h => ?_⟩
  · refine AW.seq (AW.reg cd66_9 fun K hK => ?_)
    simp only [g66_9, bR, Nat.reduceEqDiff, reduceIte, Int.reduceBNe, Int.reduceBEq]
    refine .done (hK _ ?_); clear hK K; simp only [thenQ, blockQ]
    refine AW.ret ?_
    simp only [blockQ, thenQ, bR, Nat.reduceEqDiff, reduceIte, Int.reduceBNe, Int.reduceBEq]
    have : cmpI (a.getD i 0) (b.getD i 0) ≠ 0 := by simpa using h
    rw [hi3, if_neg this]
  · have : cmpI (a.getD i 0) (b.getD i 0) = 0 := by simpa using h
    refine AW.skip ?_; simp only [thenQ, blockQ, reduceIte, Nat.reduceEqDiff]
    refine AW.reg cd66_10 fun K hK => ?_
    simp only [g66_10, bR, Nat.reduceEqDiff, reduceIte, Int.reduceBNe, Int.reduceBEq]
    refine .done (hK _ ?_); clear hK K; simp only [thenQ, blockQ]
    refine ⟨i + 1, ⟨by omega, by omega, by rw [hi3, if_pos this]⟩, by omega, ?_⟩
    rw [wrap_id _ (by omega) (by omega)]
    refine Sub.of_lists ?_ ?_ ?_ ?_ <;> simp [subT, subO, onlyT, onlyO, isIn, look_cons, lookO_cons, lookO_nil, AV.only, AV.onlys, AO.only, onlys_map, onlys_append, e_only, e_int, e_bool]
end Go.Proofs.Ytkjkbpgdpnapfaa

/-
  FUNCTIONS OF mark BY CONTRACT: settles.
-/
namespace Go.Proofs.Ytkjkbpgdpnapfaa
open Go Go.Abs
open Go.Abs.Enc (enc)
def gl (l : List Given) (i : Nat) : Given := l.getD i g0
theorem isE_gl {A : AState} {l : List Given} {i : Nat} (h : i < l.length) : isE A 7 (i : Int) (enc l) = some (.ref (enc (gl l i))) := by
  rw [isE_nat 7 h rfl]; simp [gl, List.getD_eq_getElem?_getD, h]
theorem gl_eq {l : List Given} {i : Nat} (h : i < l.length) : l[i] = gl l i := by simp [gl, List.getD_eq_getElem?_getD, h]
theorem gl_take {l : List Given} {i j : Nat} (h : j < i) (hi : i ≤ l.length) : gl (l.take i) j = gl l j := by
  simp [gl, List.getD_eq_getElem?_getD, List.getElem?_take, h]
/-- At these places any two of the given marks stand apart. -/
def apartIn (w : Arr 5 Int) (places : List Int) (g h : Given) : Bool := places.any fun k => apartAt w g.mark h.mark k.toNat
def settledAt (w : Arr 5 Int) (l : List Given) (places : List Int) (i : Nat) : Bool := (List.range i).all fun j => apartIn w places (gl l i) (gl l j)
def settled (w : Arr 5 Int) (l : List Given) (places : List Int) : Bool := (List.range l.length).all (settledAt w l places)
theorem F67 (w : Arr 5 Int) (l : List Given) (places : List Int) (hl : ∀ g ∈ l, okMark g.mark = true) (hp : ∀ k ∈ places, 0 ≤ k ∧ k < 6) : Ctr Try.prog 67 [enc w, enc l, enc places] (enc (settled w l places)) := by
  refine Ctr.mk' Try.func67 ca67 cc67 cr67 (Nat.le_of_ble_eq_true rfl) (fun hwf W0 D0 E1 => ?_)
  simp only [c67, r67, idx, Nat.zero_add, Nat.reduceAdd]
  have hlen : l.length ≤ maxLen := ((wf_list l).1 hwf.2.1).1
  simp only [maxLen] at hlen
  have hok : ∀ i, i < l.length → okMark (gl l i).mark = true := fun i hi => by rw [← gl_eq hi]; exact hl _ (List.getElem_mem hi)
  refine AW.seq (AW.reg cd67_0 fun K hK => ?_)
  simp only [g67_0, bR, Nat.reduceEqDiff, reduceIte, Int.reduceBNe, Int.reduceBEq]
  refine .done (hK _ ?_); clear hK K; simp only [thenQ, blockQ]
  refine AW.seq ?_
  refine AW.seq (AW.reg cd67_1 fun K hK => ?_)
  simp only [g67_1, bR, Nat.reduceEqDiff, reduceIte, Int.reduceBNe, Int.reduceBEq]
  try simp only [typR, useR, okR, e_fin, bR, Nat.reduceEqDiff, reduceIte, Int.reduceBNe, Int.reduceBEq]
  refine .done (hK _ ?_); clear hK K; simp only [thenQ, blockQ]
  refine AW.block (AW.loop (fun i : Nat => mkA [(1, enc l), (2, enc places), (3, .ptr 3 []), (11, enc l), (12, .int .i64 l.length), (13, .int .i64 i)] [(3, .box (enc w))]) (fun i => i ≤ l.length ∧ ∀ j, j < i → settledAt w l places j = true) (fun i => l.length - i) 0 ⟨by omega, fun k h => by omega⟩ ?_ (fun i hi => ?_))
  · refine Sub.of_lists ?_ ?_ ?_ ?_ <;> simp [subT, subO, onlyT, onlyO, isIn, look_cons, lookO_cons, lookO_nil, AV.only, AV.onlys, AO.only, onlys_map, onlys_append, e_only, e_int, e_bool]
  refine AW.seq (AW.reg cd67_2 fun K hK => ?_)
  simp only [g67_2, bR, Nat.reduceEqDiff, reduceIte, Int.reduceBNe, Int.reduceBEq]
  refine .done (hK _ ?_); clear hK K; simp only [thenQ, blockQ]
  refine AW.seq ?_
  refine AW.ite ?_
  simp only [condQ, bR, Nat.reduceEqDiff, reduceIte, Int.reduceBNe, Int.reduceBEq]
  refine ⟨fun h => ?_, fun h => ?_⟩
  case refine_2.refine_2 =>
    have hge : i = l.length := by simp at h; omega
    subst hge
    refine AW.exit ?_; simp only [thenQ, blockQ, reduceIte, Nat.reduceEqDiff]
    refine AW.seq (AW.reg cd67_11 fun K hK => ?_)
    simp only [g67_11, bR, Nat.reduceEqDiff, reduceIte, Int.reduceBNe, Int.reduceBEq]
    refine .done (hK _ ?_); clear hK K; simp only [thenQ, blockQ]
    refine AW.ret ?_
    simp only [blockQ, thenQ, bR, Nat.reduceEqDiff, reduceIte, Int.reduceBNe, Int.reduceBEq]
    rw [settled, all_true hi.2]
  have hlt : i < l.length := by simpa using h
  have bad : settledAt w l places i = false → settled w l places = false := fun h => all_false i hlt h
  refine AW.skip ?_; simp only [thenQ, blockQ, reduceIte, Nat.reduceEqDiff]
  refine AW.seq (AW.block ?_)
  refine AW.seq (AW.reg cd67_3 fun K hK => ?_)
  simp only [g67_3, bR, Nat.reduceEqDiff, reduceIte, Int.reduceBNe, Int.reduceBEq]
  simp only [typR, useR, okR, isE_gl hlt, e_a6, bR, Nat.reduceEqDiff, reduceIte, Int.reduceBNe, Int.reduceBEq]
  rw [stR3_ok (e_isVal _) (by rw [e_okS]; rfl) ((e_sh _).trans rfl)]
  simp only [setAt_nil, bR, Nat.reduceEqDiff, reduceIte, Int.reduceBNe, Int.reduceBEq]
  refine .done (hK _ ?_); clear hK K; simp only [thenQ, blockQ]
  refine AW.seq (AW.reg cd67_4 fun K hK => ?_)
  simp only [g67_4, bR, Nat.reduceEqDiff, reduceIte, Int.reduceBNe, Int.reduceBEq]
  simp only [slE_take (α := Given) 7 (show i ≤ l.length by omega) rfl, Option.map_none, bR, Nat.reduceEqDiff, reduceIte, Int.reduceBNe, Int.reduceBEq]
  try simp only [typR, useR, okR, e_fin, bR, Nat.reduceEqDiff, reduceIte, Int.reduceBNe, Int.reduceBEq]
  refine .done (hK _ ?_); clear hK K; simp only [thenQ, blockQ]
  have hti : (l.take i).length = i := by rw [List.length_take]; omega
  simp only [hti]
  refine AW.block (AW.loop (fun j : Nat => mkA [(1, enc l), (2, enc places), (3, .ptr 3 []), (8, .ptr 8 []), (11, enc l), (12, .int .i64 l.length), (13, .int .i64 i), (20, enc (l.take i)), (21, .int .i64 i), (22, .int .i64 j)] [(3, .box (enc w)), (8, .box (enc (gl l i)))]) (fun j => j ≤ i ∧ ∀ k, k < j → apartIn w places (gl l i) (gl l k) = true) (fun j => i - j) 0 ⟨by omega, fun k h => by omega⟩ ?_ (fun j hj => ?_))
  · refine Sub.of_lists ?_ ?_ ?_ ?_ <;> simp [subT, subO, onlyT, onlyO, isIn, look_cons, lookO_cons, lookO_nil, AV.only, AV.onlys, AO.only, onlys_map, onlys_append, e_only, e_int, e_bool]
  refine AW.seq (AW.reg cd67_5 fun K hK => ?_)
  simp only [g67_5, bR, Nat.reduceEqDiff, reduceIte, Int.reduceBNe, Int.reduceBEq]
  refine .done (hK _ ?_); clear hK K; simp only [thenQ, blockQ]
  refine AW.seq ?_
  refine AW.ite ?_
  simp only [condQ, bR, Nat.reduceEqDiff, reduceIte, Int.reduceBNe, Int.reduceBEq]
  refine ⟨fun h => ?_, fun h => ?_⟩
  case refine_2.refine_2 =>
    have hge : j = i := by simp at h; omega
    subst hge
    refine AW.exit ?_; simp only [thenQ, blockQ, reduceIte, Nat.reduceEqDiff]
    refine AW.reg cd67_10 fun K hK => ?_
    simp only [g67_10, bR, Nat.reduceEqDiff, reduceIte, Int.reduceBNe, Int.reduceBEq]
    refine .done (hK _ ?_); clear hK K; simp only [thenQ, blockQ]
    refine ⟨j + 1, ⟨by omega, fun k hk => ?_⟩, by omega, ?_⟩
    · rcases Nat.lt_or_ge k j with h1 | h1
      · exact hi.2 k h1
      · have : k = j := by omega
        subst this
        exact all_true hj.2
    · rw [wrap_id _ (by omega) (by omega)]
      refine Sub.of_lists ?_ ?_ ?_ ?_ <;> simp [subT, subO, onlyT, onlyO, isIn, look_cons, lookO_cons, lookO_nil, AV.only, AV.onlys, AO.only, onlys_map, onlys_append, e_only, e_int, e_bool]
  have hjl : j < i := by simp at h; omega
  have bad2 : apartIn w places (gl l i) (gl l j) = false → settledAt w l places i = false := fun h => all_false j hjl h
  refine AW.skip ?_; simp only [thenQ, blockQ, reduceIte, Nat.reduceEqDiff]
  refine AW.seq (AW.block ?_)
  refine AW.seq (AW.reg cd67_6 fun K hK => ?_)
  simp only [g67_6, bR, Nat.reduceEqDiff, reduceIte, Int.reduceBNe, Int.reduceBEq]
  try simp only [typR, useR, okR, isE_gl (show j < (l.take i).length by omega), gl_take hjl (show i ≤ l.length by omega), e_a6, bR, Nat.reduceEqDiff, reduceIte, Int.reduceBNe, Int.reduceBEq]
  rw [stR3_ok (e_isVal _) (by rw [e_okS]; rfl) ((e_sh _).trans rfl)]
  simp only [setAt_nil, bR, Nat.reduceEqDiff, reduceIte, Int.reduceBNe, Int.reduceBEq]
  refine .done (hK _ ?_); clear hK K; simp only [thenQ, blockQ]
  refine AW.seq ?_
  refine AW.reg cd67_7 fun K hK => ?_
  simp only [g67_7, bR, Nat.reduceEqDiff, reduceIte, Int.reduceBNe, Int.reduceBEq]
  simp only [List.all_cons, List.all_nil, AV.isVal, Bool.and_true, Bool.and_self, if_true, e_isVal, e_closed, e_fin, bR, Nat.reduceEqDiff, reduceIte, Int.reduceBNe, Int.reduceBEq]
  try simp only [typR, useR, okR, e_fin, bR, Nat.reduceEqDiff, reduceIte, Int.reduceBNe, Int.reduceBEq]
  refine .flat _ (F75 places 107 [.ref (enc w), .ref (enc (gl l i)), .ref (enc (gl l j))] ?_ (fun k => apartAt w (gl l i).mark (gl l j).mark k.toNat) (fun k hk => ?_)) rfl ?_
  · simp [AV.dones, AV.done, Enc.done, e_closed]
  · have hk2 := hp k hk
    have := F107 w (gl l i) (gl l j) k.toNat (by omega) (hok i hlt) (hok j (by omega))
    rwa [show ((k.toNat : Nat) : Int) = k by omega] at this
  try simp only [typR, useR, okR, e_fin, bR, Nat.reduceEqDiff, reduceIte, Int.reduceBNe, Int.reduceBEq]
  refine .done (hK _ ?_); clear hK K; simp only [thenQ, blockQ]
  refine AW.ite ?_
  simp only [condQ, bR, Nat.reduceEqDiff, reduceIte, Int.reduceBNe, Int.reduceBEq]
  refine ⟨fun h => ?_, fun h => ?_⟩
  · refine AW.seq (AW.reg cd67_8 fun K hK => ?_)
    simp only [g67_8, bR, Nat.reduceEqDiff, reduceIte, Int.reduceBNe, Int.reduceBEq]
    refine .done (hK _ ?_); clear hK K; simp only [thenQ, blockQ]
    refine AW.ret ?_
    simp only [blockQ, thenQ, bR, Nat.reduceEqDiff, reduceIte, Int.reduceBNe, Int.reduceBEq]
    have h1 : apartIn w places (gl l i) (gl l j) = false := by simpa [apartIn] using h
    rw [bad (bad2 h1)]
  · refine AW.skip ?_; simp only [thenQ, blockQ, reduceIte, Nat.reduceEqDiff]
    have h1 : apartIn w places (gl l i) (gl l j) = true := by simpa [apartIn] using h
    refine AW.reg cd67_9 fun K hK => ?_
    simp only [g67_9, bR, Nat.reduceEqDiff, reduceIte, Int.reduceBNe, Int.reduceBEq]
    refine .done (hK _ ?_); clear hK K; simp only [thenQ, blockQ]
    refine ⟨j + 1, ⟨by omega, fun k hk => ?_⟩, by omega, ?_⟩
    · rcases Nat.lt_or_ge k j with h2 | h2
      · exact hj.2 k h2
      · have : k = j := by omega
        subst this; exact h1
    · rw [wrap_id _ (by omega) (by omega)]
      refine Sub.of_lists ?_ ?_ ?_ ?_ <;> simp [subT, subO, onlyT, onlyO, isIn, look_cons, lookO_cons, lookO_nil, AV.only, AV.onlys, AO.only, onlys_map, onlys_append, e_only, e_int, e_bool]
end Go.Proofs.Ytkjkbpgdpnapfaa

