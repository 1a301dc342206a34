/-
  THE ABSTRACT LAYER, 10f: operations on parts of variables as slices. Over any program.
-/
import Derived.Lib.AppendZerosOnto
import Derived.Orders
import Derived.OrdersIn
import Derived.Test.YtkjkbpgdpnapfaaMja
set_option linter.unusedSimpArgs false
set_option linter.unusedVariables false
namespace Go.Abs
open Go Go.RowKit
section
variable {c : Ctx} {A : AState} {o : Oper} {x : AV}
theorem sb_run {P : Program} {w : World} (k : IntKind) (n : Int) (y : Nat) (code : BoundsCode) (g1 : 0 ≤ n) (g2 : n ≤ y) : (Instr.sliceBound (.int k n) y code).run P w = .ok n.toNat w := by
  simp [Instr.sliceBound, asIntOf, g1, g2]
theorem gives_sl_view {t e : TypeId} {y : Operand} {y' : AOpd} {lo hi mx : Option Operand} {lo' hi' mx' : Option AOpd} {i : TypeInfo} {fs : List AV} {n : Nat} {p : List Nat} {sz l0 k : Nat} (ho : o.op = .slice t y lo hi mx) (hu : c.P.underlying t = some (.slice e)) (hi0 : c.P.info? e = some i)
    (hy : cOpd c.P 0 y = some y') (h1 : cOpt c.P lo = some lo') (h2 : cOpt c.P hi = some hi') (h3 : cOpt c.P mx = some mx') (hmh : mx'.isSome = true → hi'.isSome = true) (hsz : sz = c.P.cellsOf e)
    (h : ev A y' = .view n p sz l0 k) (hd : deref A (.ptr n p) = some (.agg fs)) (hx : sliceV n p sz l0 k fs.length (lo'.map (ev A)) (hi'.map (ev A)) (mx'.map (ev A)) = some x) : Gives c A o x :=
  .same fun a w D E hs => by
    have opt : ∀ {q : Option Operand} {q' : Option AOpd}, cOpt c.P q = some q' → optRv w D E (q'.map (ev A)) (q.map a.eval) := by
      intro q q' hq
      cases q with
      | none => simp only [cOpt, Option.some.injEq] at hq; subst hq; simp [optRv]
      | some z =>
        simp only [cOpt, Option.map_eq_some_iff] at hq
        obtain ⟨z', hz, rfl⟩ := hq
        simpa [optRv] using ev_ok hs hz
    have h0 := ev_ok hs hy
    rw [h] at h0
    obtain ⟨yy, b, cs, T, off, c1, c2, c3, k1, k2, k3, k4, k5, k6, k7, k8, k9, k10, k11, k12, hval⟩ := hs.view h0 hd
    have hmh' : (mx'.map (ev A)).isSome = true → (hi'.map (ev A)).isSome = true := by simpa using hmh
    unfold sliceV at hx
    split at hx
    · cases hx
    rename_i hh hbh
    split at hx
    · cases hx
    rename_i ll hbl
    have d1 := opt_cases (opt h1) hbl
    have d2 := opt_cases (opt h2) hbh
    have o3 := opt h3
    split at hx
    · rename_i hmx
      split at hx
      case isFalse => cases hx
      rename_i hb
      obtain ⟨b1, b2, b3⟩ := hb
      have hvmx : mx.map a.eval = none := by
        rw [hmx] at o3
        cases hq : mx.map a.eval with
        | none => rfl
        | some v => rw [hq] at o3; simp [optRv] at o3
      have hsb : (Instr.sliceBounds true k (fs.length - l0) (lo.map a.eval) (hi.map a.eval) (mx.map a.eval)).run c.P w = .ok (ll.toNat, hh.toNat, fs.length - l0) w := by
        rw [hvmx]
        rcases d2 with ⟨_, g2, hm2⟩ | ⟨_, q2, g2⟩ <;> rcases d1 with ⟨_, g1, hm1⟩ | ⟨_, q1, g1⟩ <;> rw [g1, g2]
        · subst hm1 hm2; simp [Instr.sliceBounds]
        · subst hm2; simp [Instr.sliceBounds, sb_run q1 ll k _ b1 (by omega)]
        · subst hm1; simp [Instr.sliceBounds, sb_run q2 hh (fs.length - l0) _ (by omega) (by omega)]
        · simp [Instr.sliceBounds, sb_run q2 hh (fs.length - l0) _ (by omega) (by omega), sb_run q1 ll hh.toNat _ b1 (by omega)]
      have hrun : (Instr.sliceAt t (a.eval y) (lo.map a.eval) (hi.map a.eval) (mx.map a.eval)).run c.P w =
          .ok (.slice (if fs.length - l0 = ll.toNat then some ⟨b, off + l0 * sz, none⟩ else some ⟨b, off + l0 * sz + ll.toNat * c.P.cellsOf e, none⟩) (hh.toNat - ll.toNat) (fs.length - l0 - ll.toNat)) w := by
        rw [hval]
        simp only [Instr.sliceAt, Instr.slice, Sem.run_bind, run_underlying hu, Result.andThen_ok, hsb, run_sizeOf' hi0, Sem.run_pure, Option.map_some, addr_add]
      refine ⟨_, by simp only [execOp, ho, Sem.run_bind, hrun]; rfl, ?_⟩
      split at hx
      · rename_i hl
        simp only [Option.some.injEq] at hx
        subst hx
        have e1 : fs.length - l0 = ll.toNat := by omega
        have e2 : hh.toNat - ll.toNat = 0 := by omega
        rw [if_pos e1, e2, e1, Nat.sub_self]
        exact ⟨_, by simp [isPack, AV.isAgg]; rfl, by simp only [rc]; exact ⟨_, rfl⟩⟩
      · rename_i hl
        simp only [Option.some.injEq] at hx
        subst hx
        rw [if_neg (by omega)]
        refine ⟨_, by simp [isPack, AV.isAgg]; rfl, ?_⟩
        simp only [rc]
        refine ⟨b, yy.sh, off, AV.shs fs, k2, k5, sh_part p yy _ k4, ?_, ?_, ?_, ?_⟩
        · rw [AV.shs_eq_map, List.length_map, Nat.add_mul, Nat.add_assoc, hsz, Nat.sub_sub]
        · rw [AV.shs_eq_map, List.length_map]; exact k12
        · rw [AV.shs_eq_map, List.length_map]; omega
        · rw [AV.shs_eq_map]
          intro s hs'
          obtain ⟨f, hf, rfl⟩ := List.mem_map.1 hs'
          rw [AV.sh_size]; exact k10 f hf
    · rename_i kk m hmx
      split at hx
      case isFalse => cases hx
      rename_i hb
      obtain ⟨b1, b2, b3, b4⟩ := hb
      simp only [Option.some.injEq] at hx
      subst hx
      obtain ⟨vmx, hvmx, hvm⟩ : ∃ v, mx.map a.eval = some v ∧ v = .int kk m := by
        rw [hmx] at o3
        cases hq : mx.map a.eval with
        | none => rw [hq] at o3; simp [optRv] at o3
        | some v => rw [hq] at o3; simp only [optRv] at o3; exact ⟨v, rfl, (rv_int o3).1⟩
      subst hvm
      have hsb : ∃ r, (Instr.sliceBounds true k (fs.length - l0) (lo.map a.eval) (hi.map a.eval) (mx.map a.eval)).run c.P w = .ok r w := by
        rw [hvmx]
        rcases d2 with ⟨g0, g2, hm2⟩ | ⟨_, q2, g2⟩
        · rw [hmx, g0] at hmh'; simp at hmh'
        · rcases d1 with ⟨_, g1, hm1⟩ | ⟨_, q1, g1⟩ <;> rw [g1, g2]
          · exact ⟨_, by simp [Instr.sliceBounds, sb_run kk m (fs.length - l0) _ (by omega) b4, sb_run q2 hh m.toNat _ (by omega) (by omega)]; rfl⟩
          · exact ⟨_, by simp [Instr.sliceBounds, sb_run kk m (fs.length - l0) _ (by omega) b4, sb_run q2 hh m.toNat _ (by omega) (by omega), sb_run q1 ll hh.toNat _ b1 (by omega)]; rfl⟩
      obtain ⟨⟨r1, r2, r3⟩, hsb⟩ := hsb
      have hrun : ∃ v, (Instr.sliceAt t (a.eval y) (lo.map a.eval) (hi.map a.eval) (mx.map a.eval)).run c.P w = .ok v w := by
        rw [hval]
        exact ⟨_, by simp only [Instr.sliceAt, Instr.slice, Sem.run_bind, run_underlying hu, Result.andThen_ok, hsb, run_sizeOf' hi0, Sem.run_pure, Option.map_some]; rfl⟩
      obtain ⟨v, hrun⟩ := hrun
      exact ⟨v, by simp only [execOp, ho, Sem.run_bind, hrun]; rfl, by simp [rv]⟩
    · cases hx
theorem gives_is_view {t e : TypeId} {y z : Operand} {y' z' : AOpd} {i : TypeInfo} {fs : List AV} {n : Nat} {p : List Nat} {sz lo k : Nat} {kk : IntKind} {j : Int} (ho : o.op = .indexAddr t y z) (hu : c.P.underlying t = some (.slice e)) (hi : c.P.info? e = some i)
    (hy : cOpd c.P 0 y = some y') (hz : cOpd c.P 0 z = some z') (hsz : sz = c.P.cellsOf e) (h : ev A y' = .view n p sz lo k) (hd : deref A (.ptr n p) = some (.agg fs)) (h' : ev A z' = .int kk j) (hj : 0 ≤ j ∧ j < k) : Gives c A o (.ptr n (p ++ [lo + j.toNat])) :=
  .same fun a w D E hs => by
    have h0 := ev_ok hs hy
    rw [h] at h0
    have h1' := ev_ok hs hz
    rw [h'] at h1'
    obtain ⟨yy, b, cs, T, off, c1, c2, c3, k1, k2, k3, k4, k5, k6, k7, k8, k9, k10, k11, k12, hval⟩ := hs.view h0 hd
    refine ⟨.pointer (some ⟨b, off + lo * sz + j.toNat * c.P.cellsOf e, none⟩), by simp only [execOp, ho, hval, (rv_int h1').1, Sem.run_bind, run_indexAt_slice hu hi hj]; rfl, ?_⟩
    refine ⟨_, by simp [isPack, AV.isAgg]; rfl, ?_⟩
    simp only [rc]
    refine ⟨b, yy.sh, off + (lo + j.toNat) * sz, k2, ?_, by rw [Nat.add_mul, ← Nat.add_assoc, hsz]⟩
    have hl : lo + j.toNat < fs.length := by omega
    rw [Sh.off_snoc p yy.sh off (lo + j.toNat) _ k5 (sh_part p yy _ k4) (by rw [AV.shs_eq_map]; simpa using hl), AV.shs_eq_map, ← List.map_take, ← AV.shs_eq_map, AV.shs_sizes, sizes_take_even fs _ k10 (by omega)]
theorem gives_cap {ty : TypeId} {y : Operand} {y' : AOpd} {n : Nat} {e : TypeId} (ho : o.op = .call { callee := .builtin .cap, args := #[y], argTypes := #[ty] }) (hu : c.P.underlying ty = some (.slice e))
    (hy : cOpd c.P ty y = some y') (h : ∀ a w D E, SimW c A a w D E → ∀ v, rv w D E (ev A y') v → n ≤ maxLen ∧ ∃ ad l, v = .slice ad l n) : Gives c A o (.int .i64 n) :=
  .same fun a w D E hs => by
    obtain ⟨h0, ad, l, hv⟩ := h a w D E hs _ (ev_ok hs hy)
    exact ⟨.int .i64 n, by simp [execOp, ho, resolve, invoke, builtin, Builtin.cap_, run_underlying hu, hv, goInt], mk_int (max_i64 h0)⟩
theorem gives_bs0 {t e : TypeId} {i : TypeInfo} (ho : o.op = .buildSlice t 0 #[]) (hu : c.P.underlying t = some (.slice e)) (hi : c.P.info? e = some i) : Gives c A o (.c0 (c.P.cellsOf e)) := by
  intro a w D E hs
  have hs' := hs.newRow (.cells #[] e)
  refine ⟨.slice (some ⟨w.heap.size, 0, none⟩) 0 0, _, _, ?_, hs', ⟨_, by simp [isPack, AV.isAgg]; rfl, by simp only [rc]; exact ⟨_, rfl⟩⟩⟩
  simp [execOp, ho, Instr.buildSlice, run_underlying hu, run_sizeOf' hi, newRow, Instr.fill, show (Array.range 0) = #[] from rfl]
/-- Whether a slice of no elements is nil: it may be, or not. -/
theorem nil_any {neg : Bool} {t e : TypeId} {y z : Operand} {y' : AOpd} {yt : TypeId} {s : Nat} (ho : o.op = .binOp (if neg then .neq else .eql) t y z yt) (hu : c.P.underlying t = some (.slice e)) (hy : cOpd c.P 0 y = some y') (hz : cOpd c.P 0 z = some (.c (.nils s)))
    (h : ∃ sz, ev A y' = .slice sz [] ∨ ev A y' = .c0 sz) {a : Act} {w : World} {D : Dom} {E : Env} (hs : SimW c A a w D E) : ∃ b, (execOp a.eval o).run c.P w = .ok (.value (.bool b)) w := by
  have h0 := ev_ok hs hy
  have h1 : rv w D E (.nils s) (a.eval z) := ev_ok hs hz
  have hv : ∃ ad cp, a.eval y = .slice ad 0 cp := by
    obtain ⟨sz, h | h⟩ := h <;> rw [h] at h0
    · obtain ⟨ad, cap, e1, _⟩ := rv_slice h0
      exact ⟨ad, cap, by simpa using e1⟩
    · obtain ⟨cs, q1, q2⟩ := h0
      simp only [rc] at q2
      obtain ⟨ad, q2⟩ := q2
      exact ⟨ad, 0, by simpa [isPack, AV.isAgg, q2] using q1.symm⟩
  obtain ⟨ad, cp, hyv⟩ := hv
  have hv : a.eval z = .slice none 0 0 := by
    obtain ⟨cs, q1, q2⟩ := h1
    simp only [rc] at q2
    simpa [isPack, AV.isAgg, q2] using q1.symm
  have he : ∀ d, (Op.equalIn (d + 1) t (.slice ad 0 cp) (.slice none 0 0)).run c.P w = .ok ad.isNone w := fun d => by
    cases ad <;> simp [Op.equalIn, run_underlying hu]
  refine ⟨if neg then !ad.isNone else ad.isNone, ?_⟩
  cases neg <;> simp only [execOp, ho, hyv, hv, if_true, Bool.false_eq_true, if_false, Sem.run_bind, eqGuard] <;> simp [binOp, Op.equal, Op.maxDepth, he]
/-! ### parts that are written -/
def setSeg (y : AV) (p : List Nat) (j : Nat) (fs ys : List AV) : AV := y.setAt p (.agg (fs.take j ++ (ys ++ fs.drop (j + ys.length))))
/-- clear. -/
theorem does_clr {t e : TypeId} {y : Operand} {y' : AOpd} {z : AV} {n : Nat} {p : List Nat} {lo k : Nat} {b : AV} {fs : List AV} (ho : o.op = .call { callee := .builtin .clear, args := #[y], argTypes := #[t] }) (hu : c.P.underlying t = some (.slice e)) (hy : cOpd c.P t y = some y')
    (hz : zeroAV c.P e = some z) (hv : ev A y' = .view n p (c.P.cellsOf e) lo k) (hn : A.o n = some (.box b)) (hat : b.at p = some (.agg fs)) (hsh : AV.shs (List.replicate k z) = AV.shs ((fs.drop lo).take k)) (hd : o.dst = none) :
    Does c A o (A.setO n (.box (setSeg b p lo fs (List.replicate k z)))) := by
  intro a w D E hs
  obtain ⟨i, zv, hi, hzv, hzr⟩ := zeroAV_ok hz
  have h0 := ev_ok hs hy
  rw [hv] at h0
  have hx : deref A (.ptr n p) = some (.agg fs) := by simp only [deref, hn, hat]
  obtain ⟨yy, bk, cs, T, off, c1, c2, c3, k1, k2, k3, k4, k5, k6, k7, k8, k9, k10, k11, k12, hval⟩ := hs.view h0 hx
  rw [hn] at k1
  simp only [Option.some.injEq, AO.box.injEq] at k1
  subst k1
  have hr : rcs w D E (List.replicate k z) (Builtin.zeroCells zv.cells k).toList := by
    rw [zeroCells_toList]; exact rcs_replicate (hzr w D E) k
  obtain ⟨w', h1, h2⟩ := hs.setSeg (j := lo) (ys := List.replicate k z) hn k2 k3 k4 k5 k6 k7 k8 k9 k10 hr (by simpa using k11) (by simpa using hsh) c.P
  cases k with
  | zero =>
    refine ⟨w, .inl ⟨.tuple #[], ?_, D, E, ?_⟩⟩
    · simp [execOp, ho, resolve, invoke, builtin, Builtin.clear_, run_underlying hu, hval]
    · rw [hd]
      have : setSeg b p lo fs (List.replicate 0 z) = b.setAt p (.agg fs) := by simp [setSeg]
      have hw : w' = w := by
        simp [Builtin.zeroCells, storeCells] at h1
        exact h1.symm
      rw [hw] at h2
      exact h2
  | succ k =>
    refine ⟨w', .inl ⟨.tuple #[], ?_, D, E, ?_⟩⟩
    · simp [execOp, ho, resolve, invoke, builtin, Builtin.clear_, run_underlying hu, hval, zeroValue, typeInfo, hi, hzv, h1]
    · rw [hd]; exact h2
/-- copy. -/
theorem does_cpy {t e : TypeId} {y x : Operand} {y' x' : AOpd} {n : Nat} {p : List Nat} {lo k m : Nat} {b : AV} {fs ys : List AV} (ho : o.op = .call { callee := .builtin .copy, args := #[y, x], argTypes := #[t, t] }) (hu : c.P.underlying t = some (.slice e)) (hi : (c.P.info? e).isSome = true)
    (hy : cOpd c.P t y = some y') (hx : cOpd c.P t x = some x') (hv : ev A y' = .view n p (c.P.cellsOf e) lo k) (hn : A.o n = some (.box b)) (hat : b.at p = some (.agg fs)) (hs : srcL A (c.P.cellsOf e) (ev A x') = some ys) (hm : m = min ys.length k)
    (hsh : AV.shs (ys.take m) = AV.shs ((fs.drop lo).take m)) (hdn : ∀ k, o.dst = some k → k < c.n) :
    Does c A o ((A.setO n (.box (setSeg b p lo fs (ys.take m)))).putO o.dst (.int .i64 m)) := by
  intro a w D E hsim
  obtain ⟨i, hi⟩ := Option.isSome_iff_exists.1 hi
  have h0 := ev_ok hsim hy
  rw [hv] at h0
  have hxx : deref A (.ptr n p) = some (.agg fs) := by simp only [deref, hn, hat]
  obtain ⟨yy, bk, cs, T, off, c1, c2, c3, k1, k2, k3, k4, k5, k6, k7, k8, k9, k10, k11, k12, hval⟩ := hsim.view h0 hxx
  rw [hn] at k1
  simp only [Option.some.injEq, AO.box.injEq] at k1
  subst k1
  obtain ⟨ad, cp, news, s1, s2, s3, s4, s5, s6⟩ := hsim.src (ev_ok hsim hx) hs
  have hmy : m ≤ ys.length := by omega
  have hci : c.P.cellsOf e = i.size := by simp [Program.cellsOf, hi]
  obtain ⟨d1, d2, d3, e1, e2, e3, e4⟩ := rcs_cut s4 s5 0 m (by omega)
  simp only [Nat.zero_mul, List.drop_zero] at e2 e3
  have e2' : d1 = [] := List.eq_nil_of_length_eq_zero e2
  subst e2'
  simp only [List.nil_append] at e1
  have hlen : (ys.take m).length = m := by rw [List.length_take]; omega
  have hd2 : d2.length = m * i.size := by rw [rcs.length _ _ e3, AV.sizes_const (sz := c.P.cellsOf e) _ (fun y hy => s5 y (List.mem_of_mem_take hy)), hlen, hci]
  obtain ⟨w', h1, h2⟩ := hsim.setSeg (j := lo) (ys := ys.take m) hn k2 k3 k4 k5 k6 k7 k8 k9 k10 e3 (by rw [hlen]; omega) (by rw [hlen]; exact hsh) c.P
  have hf : (Builtin.firstCells i.size m (.slice ad ys.length cp)).run c.P w = .ok d2.toArray w := by
    by_cases hm0 : m = 0
    · have : d2 = [] := List.eq_nil_of_length_eq_zero (by rw [hd2, hm0]; simp)
      subst this
      cases ad with
      | none => exact run_firstCells_none _ _ _ _ _
      | some ad => exact run_firstCells_some w i.size m ad ys.length cp [] (by simp [hm0]) (by simp)
    · obtain ⟨b2, o2, rfl, hr⟩ := s6 (fun h => by rw [h] at hmy; simp at hmy; omega)
      refine run_firstCells_some w i.size m _ ys.length cp d2 hd2 fun j v hj => ?_
      rw [Addr.add_lit]
      refine hr j v ?_
      rw [e1, List.getElem?_append_left (List.getElem?_eq_some_iff.1 hj).1]
      exact hj
  have h63 : m ≤ maxLen := by omega
  refine ⟨w', .inl ⟨.int .i64 m, ?_, D, E, h2.putO hdn (mk_int (max_i64 h63))⟩⟩
  have hmin : Nat.min ys.length k = m := hm.symm
  rw [← hci] at hf
  simp only [execOp, ho, resolve, invoke, builtin, Sem.run_bind, Sem.run_pure, Result.andThen_ok, List.map_toArray, List.map_cons, List.map_nil, hval, s1]
  simp [Builtin.copy_, run_underlying hu, Builtin.lenOf, hmin, run_sizeOf' hi, hf, h1, goInt]
/-- What a slice is that is appended to, or whose elements are. -/
theorem base_cells {a : Act} {w : World} {D : Dom} {E : Env} (hs : SimW c A a w D E) {sz : Nat} {x : AV} {v : Value} {es : List AV} (hv : rv w D E x v) (he : srcL A sz x = some es) :
    ∃ ad cp olds, v = .slice ad es.length cp ∧ es.length ≤ cp ∧ cp ≤ maxLen ∧ rcs w D E es olds ∧ (∀ y ∈ es, y.size = sz) ∧ ∀ (P : Program) (w' : World), (∀ p u, w.cell? p = some u → w'.cell? p = some u) → (Builtin.firstCells sz es.length v).run P w' = .ok olds.toArray w' := by
  obtain ⟨ad, cp, news, s1, s2, s3, s4, s5, s6⟩ := hs.src hv he
  refine ⟨ad, cp, news, s1, s2, s3, s4, s5, fun P w' hw => ?_⟩
  have hl : news.length = es.length * sz := by rw [rcs.length _ _ s4, AV.sizes_const _ s5]
  rw [s1]
  by_cases h0 : es = []
  · subst h0
    have : news = [] := List.eq_nil_of_length_eq_zero (by rw [hl]; simp)
    subst this
    cases ad with
    | none => exact run_firstCells_none _ _ _ _ _
    | some ad => exact run_firstCells_some w' sz _ ad _ cp [] (by simp) (by simp)
  · obtain ⟨b, o', rfl, hr⟩ := s6 h0
    exact run_firstCells_some w' sz _ _ _ cp news hl fun j v hj => by rw [Addr.add_lit]; exact hw _ _ (hr j v hj)
/-- append, where there is no room: a new variable, with some spare places at its end. -/
theorem app_new {t e : TypeId} {s x : Operand} {s' x' : AOpd} {es ys : List AV} {z : AV} {d : Nat} (ho : o.op = .call { callee := .builtin .append, args := #[s, x], argTypes := #[t, t] }) (hu : c.P.underlying t = some (.slice e)) (hs' : cOpd c.P t s = some s') (hx' : cOpd c.P t x = some x')
    (hz : zeroAV c.P e = some z) (hzs : z.size = c.P.cellsOf e) (hse : srcL A (c.P.cellsOf e) (ev A s') = some es) (hsx : srcL A (c.P.cellsOf e) (ev A x') = some ys) (hby : (es.length + ys.length) * c.P.bytesOf e ≤ 140737488355328)
    (hd : o.dst = some d) (hdn : d < c.n) (hf : A.o d = none) (hne : ys ≠ []) {a : Act} {w : World} {D : Dom} {E : Env} (hsim : SimW c A a w D E) (hfull : ∀ ad l cp, a.eval s = .slice ad l cp → cp < l + ys.length) (hml : es.length + ys.length ≤ maxLen) :
    ∃ v w' m, (execOp a.eval o).run c.P w = .ok (.value v) w' ∧ es.length + ys.length + m ≤ maxLen ∧
      Sim c ((A.setO d (.box (.agg (es ++ (ys ++ List.replicate m z))))).putO o.dst (.view d [] (c.P.cellsOf e) 0 (es.length + ys.length))) (a.put o.dst v) w' := by
  obtain ⟨i, zv, hi, hzv, hzr⟩ := zeroAV_ok hz
  have hci : c.P.cellsOf e = i.size := by simp [Program.cellsOf, hi]
  have hbi : c.P.bytesOf e = i.bytes := by simp [Program.bytesOf, hi]
  obtain ⟨ad1, cp1, olds, s1, s2, s3, s4, s5, s6⟩ := base_cells hsim (ev_ok hsim hs') hse
  obtain ⟨ad2, cp2, news, t1, t2, t3, t4, t5, t6⟩ := base_cells hsim (ev_ok hsim hx') hsx
  have hlt := hfull _ _ _ s1
  obtain ⟨m, hm⟩ : ∃ m, m = grownCap w (es.length + ys.length) cp1 e - (es.length + ys.length) := ⟨_, rfl⟩
  have hge := grownCap_ge w (es.length + ys.length) cp1 e
  have hle := grownCap_le_maxLen w (es.length + ys.length) cp1 e hml
  obtain ⟨cells, hcells⟩ : ∃ cells : Array Value, cells = olds.toArray ++ news.toArray ++ Builtin.zeroCells zv.cells m := ⟨_, rfl⟩
  have hrun : (Builtin.append_ #[t, t] o.type #[a.eval s, a.eval x]).run c.P w = .ok (.slice (some ⟨w.heap.size, 0, none⟩) (es.length + ys.length) (grownCap w (es.length + ys.length) cp1 e)) (w.drew.alloc (.cells cells e)) := by
    have hn : ¬ (es.length + ys.length ≤ cp1) := by omega
    have h63 : ¬ (9223372036854775807 < ((es.length : Int) + (ys.length : Int))) := by simp only [maxLen] at hml; omega
    have h48 : ¬ (281474976710656 < Builtin.nextslicecap (es.length + ys.length) cp1 * i.bytes) := by
      have h3 : (es.length + ys.length) * i.bytes ≤ 140737488355328 := by rw [← hbi]; exact hby
      have := growslice_fits hlt h3
      omega
    have g1 := s6 c.P w.drew (fun _ _ h => h)
    have g2 := t6 c.P w.drew (fun _ _ h => h)
    rw [s1, hci] at g1
    rw [t1, hci] at g2
    rw [s1, t1, hcells, hm]
    simp [Builtin.append_, run_underlying hu, sizeOf, typeInfo, zeroValue, hi, hzv, Builtin.lenOf, hn, h63, h48, Question.forced, g1, g2, newRow, grownCap]
    congr 2
    apply Array.ext'
    simp [List.append_assoc]
  have hcl : cells.toList = olds ++ (news ++ (List.replicate m zv.cells.toList).flatten) := by
    rw [hcells]; simp [zeroCells_toList]
  have hrc : rc w D E (.agg (es ++ (ys ++ List.replicate m z))) cells.toList := by
    rw [hcl]
    simp only [rc]
    exact rcs_append _ _ _ _ s4 (rcs_append _ _ _ _ t4 (rcs_replicate (hzr w D E) m))
  have hsim' : SimW c A a w.drew D E := hsim.grow ⟨rfl, rfl, rfl, Nat.le_refl _, fun _ _ => rfl⟩ (fun _ _ h => h) (fun _ _ h _ => h) (fun b o h => hsim.live b o h)
  have hrc' : rc w.drew D E (.agg (es ++ (ys ++ List.replicate m z))) cells.toList := rc.later (w := w) (w' := w.drew) (D := D) (E := E) ⟨fun _ _ h => h, fun _ _ _ _ h => h, fun _ _ _ h => h, fun _ blk l h => ⟨blk, l, h, Nat.le_refl _, fun _ => rfl⟩⟩ _ _ hrc
  have h1 := hsim'.newBox (T := e) (.inl hdn) hf hrc'
  have hall : ∀ y ∈ es ++ (ys ++ List.replicate m z), y.size = c.P.cellsOf e := by
    intro y hy
    rcases List.mem_append.1 hy with hy | hy
    · exact s5 y hy
    · rcases List.mem_append.1 hy with hy | hy
      · exact t5 y hy
      · rw [List.eq_of_mem_replicate hy]; exact hzs
  have hlen : (es ++ (ys ++ List.replicate m z)).length = es.length + ys.length + m := by simp [Nat.add_assoc]
  have h2 := h1.put (d := d) (x := .view d [] (c.P.cellsOf e) 0 (es.length + ys.length)) (v := .slice (some ⟨w.heap.size, 0, none⟩) (es.length + ys.length) (grownCap w (es.length + ys.length) cp1 e)) hdn ⟨_, by simp [isPack, AV.isAgg]; rfl, by
    simp only [rc, if_true]
    refine ⟨w.heap.size, (AV.agg (es ++ (ys ++ List.replicate m z))).sh, 0, AV.shs (es ++ (ys ++ List.replicate m z)), rfl, by cases (AV.agg (es ++ (ys ++ List.replicate m z))).sh <;> simp [Sh.off], by simp only [AV.sh, Sh.part], ?_, ?_, ?_, ?_⟩
    · rw [AV.shs_eq_map, List.length_map, hlen, hm]; simp; omega
    · rw [AV.shs_eq_map, List.length_map, hlen]; omega
    · rw [AV.shs_eq_map, List.length_map, hlen]; omega
    · rw [AV.shs_eq_map]
      intro s hs
      obtain ⟨f, hf, rfl⟩ := List.mem_map.1 hs
      rw [AV.sh_size]; exact hall f hf⟩
  refine ⟨.slice (some ⟨w.heap.size, 0, none⟩) (es.length + ys.length) (grownCap w (es.length + ys.length) cp1 e), w.drew.alloc (.cells cells e), m, ?_, by omega, ?_⟩
  · unfold execOp
    simp only [ho, resolve, invoke, builtin, Sem.run_bind, Sem.run_pure, Result.andThen_ok, List.map_toArray, List.map_cons, List.map_nil, hrun]
  · rw [hd]
    exact ⟨D, _, h2⟩
/-- So many zero values appended, where there is no room. -/
theorem apz_new {t t' e : TypeId} {s x : Operand} {s' x' : AOpd} {es : List AV} {k : Nat} {kx kt : IntKind} {mi : Int} {z : AV} {d : Nat} (ho : o.op = .call { callee := .builtin .append, args := #[s, x], argTypes := #[t, t'] }) (hu : c.P.underlying t = some (.slice e)) (hs' : cOpd c.P t s = some s') (hx' : cOpd c.P t' x = some x') (ht' : c.P.underlying t' = some (.int kt)) (hvx : ev A x' = .int kx mi) (hk : mi.toNat = k) (hk0 : 0 < k) (hpos : 0 < c.P.cellsOf e)
    (hz : zeroAV c.P e = some z) (hzs : z.size = c.P.cellsOf e) (hse : srcL A (c.P.cellsOf e) (ev A s') = some es) (hby : (es.length + k) * c.P.bytesOf e ≤ 140737488355328)
    (hd : o.dst = some d) (hdn : d < c.n) (hf : A.o d = none) {a : Act} {w : World} {D : Dom} {E : Env} (hsim : SimW c A a w D E) (hfull : ∀ ad l cp, a.eval s = .slice ad l cp → cp < l + k) (hml : es.length + k ≤ maxLen) :
    ∃ v w' m, (execOp a.eval o).run c.P w = .ok (.value v) w' ∧ es.length + k + m ≤ maxLen ∧
      Sim c ((A.setO d (.box (.agg (es ++ (List.replicate k z ++ List.replicate m z))))).putO o.dst (.view d [] (c.P.cellsOf e) 0 (es.length + k))) (a.put o.dst v) w' := by
  obtain ⟨i, zv, hi, hzv, hzr⟩ := zeroAV_ok hz
  have hci : c.P.cellsOf e = i.size := by simp [Program.cellsOf, hi]
  have hbi : c.P.bytesOf e = i.bytes := by simp [Program.bytesOf, hi]
  obtain ⟨ad1, cp1, olds, s1, s2, s3, s4, s5, s6⟩ := base_cells hsim (ev_ok hsim hs') hse
  have v2 := ev_ok hsim hx'
  rw [hvx] at v2
  have t1 : a.eval x = .int kx ((k : Nat) : Int) := by rw [(rv_int v2).1]; congr 1; omega
  have t4 : rcs w D E (List.replicate k z) (List.replicate k zv.cells.toList).flatten := rcs_replicate (hzr w D E) k
  have t5 : ∀ y ∈ List.replicate k z, y.size = c.P.cellsOf e := fun y hy => by rw [List.eq_of_mem_replicate hy]; exact hzs
  have hlt := hfull _ _ _ s1
  obtain ⟨m, hm⟩ : ∃ m, m = grownCap w (es.length + k) cp1 e - (es.length + k) := ⟨_, rfl⟩
  have hge := grownCap_ge w (es.length + k) cp1 e
  have hle := grownCap_le_maxLen w (es.length + k) cp1 e hml
  obtain ⟨cells, hcells⟩ : ∃ cells : Array Value, cells = olds.toArray ++ Builtin.zeroCells zv.cells k ++ Builtin.zeroCells zv.cells m := ⟨_, rfl⟩
  have hrun : (Builtin.append_ #[t, t'] o.type #[a.eval s, a.eval x]).run c.P w = .ok (.slice (some ⟨w.heap.size, 0, none⟩) (es.length + k) (grownCap w (es.length + k) cp1 e)) (w.drew.alloc (.cells cells e)) := by
    have h3 : (es.length + k) * i.bytes ≤ 140737488355328 := by rw [← hbi]; exact hby
    have g1 := s6 c.P w.drew (fun _ _ h => h)
    rw [s1, hci] at g1
    have hfit := growslice_fits hlt h3
    have hkb : k * i.bytes ≤ (es.length + k) * i.bytes := Nat.mul_le_mul_right _ (by omega)
    rw [s1, t1, hcells, hm]
    exact Lib.run_append_grow_zeros w t t' o.type e i zv kx kt hu ht' hi hzv ad1 es.length cp1 olds g1 k hk0 (by rw [← hci]; exact hpos) hlt (by simp only [maxLen] at hml; omega) (by omega) (by omega)
  have hcl : cells.toList = olds ++ ((List.replicate k zv.cells.toList).flatten ++ (List.replicate m zv.cells.toList).flatten) := by
    rw [hcells]; simp [zeroCells_toList]
  have hrc : rc w D E (.agg (es ++ (List.replicate k z ++ List.replicate m z))) cells.toList := by
    rw [hcl]
    simp only [rc]
    exact rcs_append _ _ _ _ s4 (rcs_append _ _ _ _ t4 (rcs_replicate (hzr w D E) m))
  have hsim' : SimW c A a w.drew D E := hsim.grow ⟨rfl, rfl, rfl, Nat.le_refl _, fun _ _ => rfl⟩ (fun _ _ h => h) (fun _ _ h _ => h) (fun b o h => hsim.live b o h)
  have hrc' : rc w.drew D E (.agg (es ++ (List.replicate k z ++ List.replicate m z))) cells.toList := rc.later (w := w) (w' := w.drew) (D := D) (E := E) ⟨fun _ _ h => h, fun _ _ _ _ h => h, fun _ _ _ h => h, fun _ blk l h => ⟨blk, l, h, Nat.le_refl _, fun _ => rfl⟩⟩ _ _ hrc
  have h1 := hsim'.newBox (T := e) (.inl hdn) hf hrc'
  have hall : ∀ y ∈ es ++ (List.replicate k z ++ List.replicate m z), y.size = c.P.cellsOf e := by
    intro y hy
    rcases List.mem_append.1 hy with hy | hy
    · exact s5 y hy
    · rcases List.mem_append.1 hy with hy | hy
      · exact t5 y hy
      · rw [List.eq_of_mem_replicate hy]; exact hzs
  have hlen : (es ++ (List.replicate k z ++ List.replicate m z)).length = es.length + k + m := by simp [Nat.add_assoc]
  have h2 := h1.put (d := d) (x := .view d [] (c.P.cellsOf e) 0 (es.length + k)) (v := .slice (some ⟨w.heap.size, 0, none⟩) (es.length + k) (grownCap w (es.length + k) cp1 e)) hdn ⟨_, by simp [isPack, AV.isAgg]; rfl, by
    simp only [rc, if_true]
    refine ⟨w.heap.size, (AV.agg (es ++ (List.replicate k z ++ List.replicate m z))).sh, 0, AV.shs (es ++ (List.replicate k z ++ List.replicate m z)), rfl, by cases (AV.agg (es ++ (List.replicate k z ++ List.replicate m z))).sh <;> simp [Sh.off], by simp only [AV.sh, Sh.part], ?_, ?_, ?_, ?_⟩
    · rw [AV.shs_eq_map, List.length_map, hlen, hm]; simp; omega
    · rw [AV.shs_eq_map, List.length_map, hlen]; omega
    · rw [AV.shs_eq_map, List.length_map, hlen]; omega
    · rw [AV.shs_eq_map]
      intro s hs
      obtain ⟨f, hf, rfl⟩ := List.mem_map.1 hs
      rw [AV.sh_size]; exact hall f hf⟩
  refine ⟨.slice (some ⟨w.heap.size, 0, none⟩) (es.length + k) (grownCap w (es.length + k) cp1 e), w.drew.alloc (.cells cells e), m, ?_, by omega, ?_⟩
  · unfold execOp
    simp only [ho, resolve, invoke, builtin, Sem.run_bind, Sem.run_pure, Result.andThen_ok, List.map_toArray, List.map_cons, List.map_nil, hrun]
  · rw [hd]
    exact ⟨D, _, h2⟩
/-- append, where there is room. -/
theorem does_app_in {t e : TypeId} {s x : Operand} {s' x' : AOpd} {ys : List AV} {n : Nat} {p : List Nat} {lo k : Nat} {b : AV} {fs : List AV} (ho : o.op = .call { callee := .builtin .append, args := #[s, x], argTypes := #[t, t] }) (hu : c.P.underlying t = some (.slice e)) (hi : (c.P.info? e).isSome = true)
    (hs' : cOpd c.P t s = some s') (hx' : cOpd c.P t x = some x') (hv : ev A s' = .view n p (c.P.cellsOf e) lo k) (hn : A.o n = some (.box b)) (hat : b.at p = some (.agg fs)) (hsx : srcL A (c.P.cellsOf e) (ev A x') = some ys) (hroom : lo + k + ys.length ≤ fs.length)
    (hsh : AV.shs ys = AV.shs ((fs.drop (lo + k)).take ys.length)) (hdn : ∀ k, o.dst = some k → k < c.n) :
    Does c A o ((A.setO n (.box (setSeg b p (lo + k) fs ys))).putO o.dst (.view n p (c.P.cellsOf e) lo (k + ys.length))) := by
  intro a w D E hsim
  obtain ⟨i, hi⟩ := Option.isSome_iff_exists.1 hi
  have hci : c.P.cellsOf e = i.size := by simp [Program.cellsOf, hi]
  have h0 := ev_ok hsim hs'
  rw [hv] at h0
  have hxx : deref A (.ptr n p) = some (.agg fs) := by simp only [deref, hn, hat]
  obtain ⟨yy, bk, cs, T, off, c1, c2, c3, k1, k2, k3, k4, k5, k6, k7, k8, k9, k10, k11, k12, hval⟩ := hsim.view h0 hxx
  rw [hn] at k1
  simp only [Option.some.injEq, AO.box.injEq] at k1
  subst k1
  obtain ⟨ad2, cp2, news, t1, t2, t3, t4, t5, t6⟩ := base_cells hsim (ev_ok hsim hx') hsx
  obtain ⟨w', h1, h2⟩ := hsim.setSeg (j := lo + k) (ys := ys) hn k2 k3 k4 k5 k6 k7 k8 k9 k10 t4 hroom hsh c.P
  have g2 := t6 c.P w (fun _ _ h => h)
  rw [t1, hci] at g2
  have hr : k + ys.length ≤ fs.length - lo := by omega
  refine ⟨w', .inl ⟨.slice (some ⟨bk, off + lo * c.P.cellsOf e, none⟩) (k + ys.length) (fs.length - lo), ?_, D, E, h2.putO hdn ?_⟩⟩
  · have e1 : off + lo * i.size + k * i.size = off + (lo + k) * c.P.cellsOf e := by rw [hci, Nat.add_mul]; omega
    unfold execOp
    simp only [ho, resolve, invoke, builtin, Sem.run_bind, Sem.run_pure, Result.andThen_ok, List.map_toArray, List.map_cons, List.map_nil, hval, t1]
    simp [Builtin.append_, run_underlying hu, sizeOf, typeInfo, hi, Builtin.lenOf, hr, g2, Addr.add_lit, hci, e1]
    rw [hci] at h1
    simp [h1]
  · refine ⟨_, by simp [isPack, AV.isAgg]; rfl, ?_⟩
    simp only [rc]
    refine ⟨bk, b.sh, off, AV.shs fs, k2, k5, sh_part p b _ k4, ?_, ?_, ?_, ?_⟩
    · rw [AV.shs_eq_map, List.length_map]
    · rw [AV.shs_eq_map, List.length_map]; exact k12
    · rw [AV.shs_eq_map, List.length_map]; omega
    · rw [AV.shs_eq_map]
      intro s hs
      obtain ⟨f, hf, rfl⟩ := List.mem_map.1 hs
      rw [AV.sh_size]; exact k10 f hf
/-- append of nothing. -/
theorem does_app_none {t e : TypeId} {s x : Operand} {s' x' : AOpd} {es : List AV} (ho : o.op = .call { callee := .builtin .append, args := #[s, x], argTypes := #[t, t] }) (hu : c.P.underlying t = some (.slice e)) (hi : (c.P.info? e).isSome = true) (hs' : cOpd c.P t s = some s') (hx' : cOpd c.P t x = some x')
    (hse : srcL A (c.P.cellsOf e) (ev A s') = some es) (hsx : srcL A (c.P.cellsOf e) (ev A x') = some []) : Gives c A o (ev A s') :=
  .same fun a w D E hsim => by
    obtain ⟨i, hi⟩ := Option.isSome_iff_exists.1 hi
    have hci : c.P.cellsOf e = i.size := by simp [Program.cellsOf, hi]
    obtain ⟨ad1, cp1, olds, s1, s2, s3, s4, s5, s6⟩ := base_cells hsim (ev_ok hsim hs') hse
    obtain ⟨ad2, cp2, news, t1, t2, t3, t4, t5, t6⟩ := base_cells hsim (ev_ok hsim hx') hsx
    have g2 := t6 c.P w (fun _ _ h => h)
    rw [t1, hci] at g2
    simp only [rcs] at t4
    subst t4
    refine ⟨a.eval s, ?_, ev_ok hsim hs'⟩
    simp only [List.length_nil] at g2 t1
    unfold execOp
    simp only [ho, resolve, invoke, builtin, Sem.run_bind, Sem.run_pure, Result.andThen_ok, List.map_toArray, List.map_cons, List.map_nil, s1, t1]
    cases ad1 <;> simp [Builtin.append_, run_underlying hu, sizeOf, typeInfo, hi, Builtin.lenOf, s2, g2, storeCells]
end
end Go.Abs

/-
  THE ABSTRACT LAYER, 11: contracts of functions; runs of operations, one behind the other. Over any program.
-/
namespace Go.Abs
open Go Go.RowKit
mutual
/-- Values that lead to no memory. -/
def AV.flat : AV → Bool
  | .agg fs | .tuple fs => AV.flats fs
  | .bool _ | .int _ _ | .str _ | .nilp | .nilf | .nili | .raw _ | .undef | .top => true
  | _ => false
def AV.flats : List AV → Bool
  | [] => true
  | x :: xs => x.flat && AV.flats xs
end
mutual
theorem rc.flat {w w' : World} {D D' : Dom} {E E' : Env} : ∀ (x : AV) (cs : List Value), x.flat = true → rc w D E x cs → rc w' D' E' x cs
  | .agg fs, cs, hf, hr => by simp only [rc, AV.flat] at *; exact rcs.flat fs cs hf hr
  | .bool b, cs, _, hr => by simpa only [rc] using hr
  | .int k n, cs, _, hr => by simpa only [rc] using hr
  | .str s, cs, _, hr => by simpa only [rc] using hr
  | .nilp, cs, _, hr => by simpa only [rc] using hr
  | .nilf, cs, _, hr => by simpa only [rc] using hr
  | .nili, cs, _, hr => by simpa only [rc] using hr
  | .raw _, cs, _, hr => by simpa only [rc] using hr
  | .undef, _, _, hr => by simp only [rc] at hr
  | .top, _, _, hr => by simp only [rc] at hr
  | .tuple _, _, _, hr => by simp only [rc] at hr
  | .nils _, _, hf, _ | .c0 _, _, hf, _ | .slice _ _, _, hf, _ | .ref _, _, hf, _ | .func _ _, _, hf, _ | .iface _ _, _, hf, _ | .ptr _ _, _, hf, _ | .own _ _, _, hf, _ | .view _ _ _ _ _, _, hf, _ => by simp [AV.flat] at hf
theorem rcs.flat {w w' : World} {D D' : Dom} {E E' : Env} : ∀ (xs : List AV) (cs : List Value), AV.flats xs = true → rcs w D E xs cs → rcs w' D' E' xs cs
  | [], cs, _, hr => by simpa only [rcs] using hr
  | x :: xs, cs, hf, hr => by
    simp only [rcs, AV.flats, Bool.and_eq_true] at *
    obtain ⟨c1, c2, h1, h2, h3⟩ := hr
    exact ⟨c1, c2, h1, rc.flat x c1 hf.1 h2, rcs.flat xs c2 hf.2 h3⟩
end
theorem rvs.flat {w w' : World} {D D' : Dom} {E E' : Env} : ∀ (xs : List AV) (vs : List Value), AV.flats xs = true → rvs w D E xs vs → rvs w' D' E' xs vs
  | [], vs, _, hr => by simpa only [rvs] using hr
  | x :: xs, vs, hf, hr => by
    simp only [rvs, AV.flats, Bool.and_eq_true] at *
    obtain ⟨v, rest, cs, h1, h2, h3, h4⟩ := hr
    exact ⟨v, rest, cs, h1, h2, rc.flat x cs hf.1 h3, rvs.flat xs rest hf.2 h4⟩
theorem rv.flat {w w' : World} {D D' : Dom} {E E' : Env} {x : AV} {v : Value} (hf : x.flat = true) (hr : rv w D E x v) : rv w' D' E' x v := by
  cases x <;> simp only [rv] at * <;> first
    | exact hr
    | (obtain ⟨vs, h1, h2⟩ := hr; exact ⟨vs, h1, rvs.flat _ _ (by simpa [AV.flat] using hf) h2⟩)
    | (obtain ⟨cs, h1, h2⟩ := hr; exact ⟨cs, h1, rc.flat _ _ hf h2⟩)
def E0 : Env := fun _ => none
/-- THE CONTRACT OF A FUNCTION: called with values that are these, it returns one that is 'r'; nothing that was there has turned; what the result reads was readable, or is new. -/
def Ctr (P : Program) (f : FuncId) (args : List AV) (r : AV) : Prop :=
  callable P f = true ∧ ∀ (w : World) (D : Dom) (vs : List Value), (∀ b o, D b o → b < w.heap.size) → rvs w D E0 args vs →
    Calls P f vs.toArray w fun e w' => ∃ v D', e = .returned v ∧ rv w' D' E0 r v ∧ Below w.heap.size w w' ∧ (∀ b o, D' b o → b < w'.heap.size) ∧ ∀ b o, D' b o → b < w.heap.size → D b o
/-- THE CONTRACT OF A FUNCTION THAT IS HANDED OBJECTS: they come back, and with them, it may be, new ones. -/
def CtrO (P : Program) (f : FuncId) (args : List AV) (os : List (Nat × AO)) (post : Post) : Prop :=
  callable P f = true ∧ Hand (Calls P f) (fun _ _ _ => True) args os post
/-- These objects speak of these names alone. -/
def onlyO (p : Nat → Bool) : List (Nat × AO) → Prop
  | [] => True
  | (_, v) :: r => v.only p = true ∧ onlyO p r
/-- The objects but these. -/
def dropO (ns : List Nat) (os : List (Nat × AO)) : List (Nat × AO) := os.filter fun q => !ns.contains q.1
/-- The slots that do not speak of these. -/
def fgt (ns : List Nat) (ts : List (Nat × AV)) : List (Nat × AV) := ts.map fun q => (q.1, if q.2.only (fun n => !ns.contains n) then q.2 else .top)
/-- These objects. -/
def keepO (ns : List Nat) (os : List (Nat × AO)) : List (Nat × AO) := os.filter fun q => ns.contains q.1
def names (ρ : List (Nat × Nat)) (os : List (Nat × AO)) : List Nat := os.map fun q => rnm ρ q.1
/-- Arguments: what is handed over, its names put for the call's; all else as others may hold it. -/
def argsOk (bx : Bool) (A0 : AState) (ρ : List (Nat × Nat)) (os : List (Nat × AO)) : List AV → List AV → Prop
  | [], [] => True
  | x :: xs, c :: cs => ((x = c.ren (rnm ρ) ∧ c.only (isIn os) = true ∧ c.isVal = true) ∨ fin bx A0 x = some c) ∧ argsOk bx A0 ρ os xs cs
  | _, _ => False
/-- An operation, read: where its result goes, what it is, on what it hangs. -/
structure G where
  dst : Option Nat
  op : AOp
  guard : Option (Nat × Bool)
  deriving Inhabited
inductive Res where
  | done (A : AState)
  | fail
  | call (f : FuncId) (avs : List AV) (a1 a2 : Option (List AV)) (dst : Option Nat) (rest : List G) (A : AState)
  | callr (v : Value) (avs : List AV) (dst : Option Nat) (rest : List G) (A : AState)
  | xcall (f : FuncId) (avs : List AV) (dst : Option Nat) (rest : List G) (A : AState)
  | any (p : Nat → Prop) (k : Nat → Res)
def bindR (x : Option AV) (k : AV → Res) : Res := match x with
  | some v => k v
  | none => .fail
def okSt (s : Option Nat) (v old : AV) : Prop := v.isVal = true ∧ okLd s v = true ∧ v.sh = old.sh
def okApp (e esz bytes l sz : Nat) (ys : List AV) (T sz' : Nat) (es : List AV) : Prop := l = es.length ∧ sz = esz ∧ T = e ∧ sz' = esz ∧ ys ≠ [] ∧ es.length + ys.length ≤ maxLen ∧ (es.length + ys.length) * bytes ≤ 140737488355328
/-- Slices of which it is not told whether they are nil. -/
def und : AV → Bool
  | .slice _ es => es.isEmpty
  | .c0 _ => true
  | _ => false
open Classical in
/-- A new variable for what is appended to. -/
noncomputable def appG (A : AState) (dst : Option Nat) (esz bytes : Nat) (z : AV) (es ys : List AV) (k : AState → Res) : Res :=
  match dst with
  | some d => match A.o d with
    | none => if (es.length + ys.length) * bytes ≤ 140737488355328 ∧ es.length + ys.length ≤ maxLen then
        .any (fun m => es.length + ys.length + m ≤ maxLen) (fun m => k ((A.setO d (.box (.agg (es ++ (ys ++ List.replicate m z))))).putO dst (.view d [] esz 0 (es.length + ys.length)))) else .fail
    | some _ => .fail
  | none => .fail
open Classical in
/-- Appended to a slice that is not a row of the frame's own. -/
noncomputable def appO (A : AState) (dst : Option Nat) (esz bytes : Nat) (z : AV) (s : AV) : Option (List AV) → Option (List AV) → (AState → Res) → Res
  | some es, some ys, k => if ys = [] then k (A.putO dst s) else match s with
    | .nils _ => appG A dst esz bytes z es ys k
    | .c0 _ => appG A dst esz bytes z es ys k
    | .view n p sz lo l => match A.o n with
      | some (.box b) => match b.at p with
        | some (.agg fs) => if lo + l + ys.length ≤ fs.length then
            (if sz = esz ∧ AV.shs ys = AV.shs ((fs.drop (lo + l)).take ys.length) then k ((A.setO n (.box (setSeg b p (lo + l) fs ys))).putO dst (.view n p esz lo (l + ys.length))) else .fail)
            else appG A dst esz bytes z es ys k
        | _ => .fail
      | _ => .fail
    | _ => .fail
  | _, _, _ => .fail
open Classical in
/-- So many zero values appended to a slice that has no room for them. -/
noncomputable def apzO (A : AState) (dst : Option Nat) (esz bytes : Nat) (z : AV) (m : Nat) (s : AV) : Option (List AV) → (AState → Res) → Res
  | some es, k => match s with
    | .view n p _ lo l => match A.o n with
      | some (.box b) => match b.at p with
        | some (.agg fs) => if 0 < m ∧ fs.length < lo + l + m then appG A dst esz bytes z es (List.replicate m z) k else .fail
        | _ => .fail
      | _ => .fail
    | _ => .fail
  | _, _ => .fail
open Classical in
noncomputable def clrO (A : AState) (esz : Nat) (z : AV) (k : AState → Res) : AV → Res
  | .view n p sz lo l => match A.o n with
    | some (.box b) => match b.at p with
      | some (.agg fs) => if sz = esz ∧ AV.shs (List.replicate l z) = AV.shs ((fs.drop lo).take l) then k (A.setO n (.box (setSeg b p lo fs (List.replicate l z)))) else .fail
      | _ => .fail
    | _ => .fail
  | .nils _ => k A
  | .c0 _ => k A
  | _ => .fail
open Classical in
noncomputable def cpyO (A : AState) (dst : Option Nat) (esz : Nat) (k : AState → Res) : AV → Option (List AV) → Res
  | .view n p sz lo l, some ys => match A.o n with
    | some (.box b) => match b.at p with
      | some (.agg fs) => if sz = esz ∧ AV.shs (ys.take (min ys.length l)) = AV.shs ((fs.drop lo).take (min ys.length l)) then k ((A.setO n (.box (setSeg b p lo fs (ys.take (min ys.length l))))).putO dst (.int .i64 (min ys.length l : Nat))) else .fail
      | _ => .fail
    | _ => .fail
  | _, _ => .fail
open Classical in
/-- One operation, then the others. -/
noncomputable def gStep (A : AState) (dst : Option Nat) (op : AOp) (rest : List G) (k : AState → Res) : Res :=
  match op with
  | .alloc z => match dst with
    | some d => match A.o d with
      | none => k ((A.setO d (.box z)).put d (.ptr d []))
      | some _ => .fail
    | none => .fail
  | .box x => match dst with
    | some d => match A.o d with
      | none => if (ev A x).isVal then k ((A.setO d (.box (ev A x))).put d (.ptr d [])) else .fail
      | some _ => .fail
    | none => .fail
  | .st s x v => match dst with
    | none => match ev A x with
      | .ptr n p => match A.o n with
        | some (.box b) => match b.at p with
          | some old => if okSt s (ev A v) old then k (A.setO n (.box (b.setAt p (ev A v)))) else .fail
          | none => .fail
        | _ => .fail
      | _ => .fail
    | some _ => .fail
  | .app e esz bytes z s x => match ev A s with
    | .own n l => match ev A x with
      | .slice sz ys => match A.o n with
        | some (.row T sz' es) => if okApp e esz bytes l sz ys T sz' es then k ((A.setO n (.row e esz (es ++ ys))).putO dst (.own n (es.length + ys.length))) else .fail
        | _ => .fail
      | _ => .fail
    | s' => appO A dst esz bytes z s' (srcL A esz s') (srcL A esz (ev A x)) k
  | .apz _ esz bytes z s n => match ev A n with
    | .int _ m => apzO A dst esz bytes z m.toNat (ev A s) (srcL A esz (ev A s)) k
    | _ => .fail
  | .nilS neg x => if und (ev A x) then .any (fun m => m < 2) (fun m => k (A.putO dst (.bool (m == 0)))) else bindR (pureOp A (.nilS neg x)) fun v => k (A.putO dst v)
  | .clr esz z x => match dst with
    | none => clrO A esz z k (ev A x)
    | some _ => .fail
  | .cpy esz x y => cpyO A dst esz k (ev A x) (srcL A esz (ev A y))
  | .call f args => .call f (args.map (ev A)) (fins true A (args.map (ev A))) (fins false A (args.map (ev A))) dst rest A
  | .callv x args => match ev A x with
    | .func f caps => .call f (args.map (ev A) ++ caps) (fins true A (args.map (ev A) ++ caps)) (fins false A (args.map (ev A) ++ caps)) dst rest A
    | .raw v => .callr v (args.map (ev A)) dst rest A
    | _ => .fail
  | .xcall f args => .xcall f (args.map (ev A)) dst rest A
  | op => bindR (pureOp A op) fun v => k (A.putO dst v)
noncomputable def aops : List G → AState → Res
  | [], A => .done A
  | g :: rest, A => match g.guard with
    | none => gStep A g.dst g.op rest (aops rest)
    | some (t, b) => match A.t t with
      | .bool b' => if b' = b then gStep A g.dst g.op rest (aops rest) else aops rest (A.putO g.dst .undef)
      | .undef => aops rest (A.putO g.dst .undef)
      | _ => .fail
/-- A function that has no body here: in such a state it answers this, and turns nothing. -/
def XVal (P : Program) (A : AState) (f : FuncId) (avs : List AV) (r : AV) : Prop :=
  ∀ (c : Ctx) (a : Act) (w : World) (D : Dom) (E : Env) (vs : List Value), c.P = P → SimW c A a w D E → All2 (rv w D E) avs vs → ∃ v, (callFunc f vs.toArray).run P w = .ok (.value v) w ∧ rv w D E r v
/-- What is to be shown of a run: it comes to its end in a state of 'K', the functions that it calls met by contract. 'dr': in a region that draws its order (there no objects are handed over). -/
inductive WP (P : Program) (Y : Value → List AV → List (Nat × AO) → Post → Prop) (dr : Bool) (K : AState → Prop) : Res → Prop where
  | done {A : AState} : K A → WP P Y dr K (.done A)
  | flat {f : FuncId} {avs cargs : List AV} {a2 : Option (List AV)} {dst : Option Nat} {rest : List G} {A : AState} (r : AV) : Ctr P f cargs r → r.flat = true → WP P Y dr K (aops rest (A.putO dst r)) → WP P Y dr K (.call f avs (some cargs) a2 dst rest A)
  | lead {f : FuncId} {avs cargs : List AV} {a1 : Option (List AV)} {dst : Option Nat} {rest : List G} {A : AState} (r : AV) : Ctr P f cargs r → WP P Y dr K (aops rest (A.putO dst r)) → WP P Y dr K (.call f avs a1 (some cargs) dst rest A)
  | free {f : FuncId} {avs cargs : List AV} {a1 a2 : Option (List AV)} {dst : Option Nat} {rest : List G} {ts : List (Nat × AV)} {os0 : List (Nat × AO)} (ns : List Nat) (r : AV) : dr = false → Ctr P f cargs r → fins true (mkA ts (keepO ns os0)) avs = some cargs →
      onlyO (fun n => !ns.contains n) (dropO ns os0) → WP P Y dr K (aops rest ((mkA (fgt ns ts) (dropO ns os0)).putO dst r)) → WP P Y dr K (.call f avs a1 a2 dst rest (mkA ts os0))
  | obj {f : FuncId} {avs : List AV} {a1 a2 : Option (List AV)} {dst : Option Nat} {rest : List G} {ts : List (Nat × AV)} {os0 : List (Nat × AO)} (bx : Bool) (ρ : List (Nat × Nat)) (os : List (Nat × AO)) (cargs : List AV) (post : Post) : dr = false → CtrO P f cargs os post →
      Gvn ρ os os0 → argsOk bx (mkA ts (dropO (names ρ os) os0)) ρ os avs cargs → (∀ r os', post r os' → Bck bx ρ os os0 r os') →
      (∀ r os', post r os' → WP P Y dr K (aops rest ((mkA ts (renO ρ os' ++ os0)).putO dst (r.ren (rnm ρ))))) → WP P Y dr K (.call f avs a1 a2 dst rest (mkA ts os0))
  | yld {v : Value} {avs : List AV} {dst : Option Nat} {rest : List G} {ts : List (Nat × AV)} {os0 : List (Nat × AO)} (os : List (Nat × AO)) (cargs : List AV) (post : Post) : dr = false → Y v cargs os post →
      Gvn [] os os0 → argsOk false (mkA ts (dropO (names [] os) os0)) [] os avs cargs → (∀ r os', post r os' → Bck false [] os os0 r os') →
      (∀ r os', post r os' → WP P Y dr K (aops rest ((mkA ts (renO [] os' ++ os0)).putO dst (r.ren (rnm []))))) → WP P Y dr K (.callr v avs dst rest (mkA ts os0))
  | ext {f : FuncId} {avs : List AV} {dst : Option Nat} {rest : List G} {A : AState} (r : AV) : dr = false → XVal P A f avs r → WP P Y dr K (aops rest (A.putO dst r)) → WP P Y dr K (.xcall f avs dst rest A)
  | any {p : Nat → Prop} {k : Nat → Res} : dr = false → (∀ m, p m → WP P Y dr K (k m)) → WP P Y dr K (.any p k)
def dstOk (n : Nat) : Option Nat → Bool
  | some d => decide (d < n)
  | none => true
/-- The program's operations, read. -/
def cG (P : Program) (n : Nat) (ops : Array Oper) (o : Oper) : Option G :=
  match cOp P o with
  | none => none
  | some g => if dstOk n o.dst = true then
      match o.guard with
      | none => some ⟨o.dst, g, none⟩
      | some (j, b) => match (ops[j]?).bind (·.dst) with
        | some t => some ⟨o.dst, g, some (t, b)⟩
        | none => none
    else none
def cGs (P : Program) (n : Nat) (ops : Array Oper) : List Oper → Option (List G)
  | [] => some []
  | o :: l => match cG P n ops o, cGs P n ops l with
    | some g, some gs => some (g :: gs)
    | _, _ => none
end Go.Abs

/-
  THE ABSTRACT LAYER, 12: that a run of the abstract operations tells what the program's come to. Over any program.
-/
namespace Go.Abs
open Go Go.RowKit
section
variable {c : Ctx} {A : AState} {o : Oper} {x : AV}
theorem pure_sound {g : AOp} (hg : cOp c.P o = some g) (h : pureOp A g = some x) : Gives c A o x := by
  unfold cOp at hg
  split at hg
  -- move
  · rename_i y ho
    simp only [Option.map_eq_some_iff] at hg
    obtain ⟨z, hz, rfl⟩ := hg
    simp only [pureOp, Option.some.injEq] at h
    subst h
    exact gives_mv (.inl ho) hz
  · rename_i y ho
    simp only [Option.map_eq_some_iff] at hg
    obtain ⟨z, hz, rfl⟩ := hg
    simp only [pureOp, Option.some.injEq] at h
    subst h
    exact gives_mv (.inr ho) hz
  -- pick
  · rename_i q y z ho
    split at hg
    · rename_i q' y' z' h1 h2 h3
      simp only [Option.some.injEq] at hg
      subst hg
      simp only [pureOp] at h
      split at h
      · rename_i t ht
        simp only [Option.some.injEq] at h
        subst h
        exact gives_pick ho h1 h2 h3 ht
      · cases h
    · cases hg
  -- binOp
  · rename_i op t y z yt ho
    split at hg
    · rename_i k y' z' hu h1 h2
      simp only [Option.some.injEq] at hg
      subst hg
      exact gives_bin ho h1 h2 h
    · rename_i y' z' hu h1 h2
      simp only [Option.some.injEq] at hg
      subst hg
      exact gives_bin ho h1 h2 h
    · rename_i e y' z' hu h1 h2
      split at hg
      · rename_i s
        split at hg
        · rename_i hop
          simp only [Option.some.injEq] at hg
          subst hg
          have ho' : o.op = .binOp (if (op == .neq) = true then .neq else .eql) t y z yt := by
            rcases hop with rfl | rfl <;> simpa using ho
          simp only [pureOp] at h
          split at h
          · rename_i s' hs'
            simp only [Option.some.injEq] at h
            subst h
            have := gives_nilS (r := true) ho' hu h1 h2 (.inl ⟨s', hs', rfl⟩)
            rw [show (if (op == BinOp.neq) = true then !true else true) = !(op == BinOp.neq) from by cases (op == BinOp.neq) <;> rfl] at this
            exact this
          · rename_i s' es hs'
            split at h
            · cases h
            · rename_i hne
              simp only [Option.some.injEq] at h
              subst h
              have := gives_nilS (r := false) ho' hu h1 h2 (.inr (.inl ⟨s', es, hs', by simpa using hne, rfl⟩))
              rw [show (if (op == BinOp.neq) = true then !false else false) = (op == BinOp.neq) from by cases (op == BinOp.neq) <;> rfl] at this
              exact this
          · rename_i n p s' lo k hs'
            simp only [Option.some.injEq] at h
            subst h
            have := gives_nilS (r := false) ho' hu h1 h2 (.inr (.inr ⟨n, p, s', lo, k, hs', rfl⟩))
            rw [show (if (op == BinOp.neq) = true then !false else false) = (op == BinOp.neq) from by cases (op == BinOp.neq) <;> rfl] at this
            exact this
          · cases h
        · cases hg
      · cases hg
    · rename_i d y' z' _ _ _ hu h1 h2
      split at hg
      · rename_i hop
        simp only [Option.map_eq_some_iff] at hg
        obtain ⟨ty, hty, rfl⟩ := hg
        have ho' : o.op = .binOp (if (op == .neq) = true then .neq else .eql) t y z yt := by
          rcases hop.1 with rfl | rfl <;> simpa using ho
        simp only [pureOp, Option.map_eq_some_iff] at h
        obtain ⟨r, hr, rfl⟩ := h
        exact gives_eqv ho' h1 h2 hop.2 hty hr
      · cases hg
    · cases hg
  -- unOp
  · rename_i op t y ho
    simp only [Option.map_eq_some_iff] at hg
    obtain ⟨z, hz, rfl⟩ := hg
    simp only [pureOp] at h
    split at h
    · rename_i b hb
      simp only [Option.some.injEq] at h
      subst h
      exact gives_not ho hz hb
    · rename_i k n hb
      simp only [Option.some.injEq] at h
      subst h
      exact gives_neg ho hz hb
    · rename_i k n hb
      simp only [Option.some.injEq] at h
      subst h
      exact gives_cpl ho hz hb
    · cases h
  -- convert
  · rename_i src dst y ho
    split at hg
    · rename_i k0 k y' h1 h2 h3
      simp only [Option.some.injEq] at hg
      subst hg
      simp only [pureOp] at h
      split at h
      · rename_i k1 n hn
        simp only [Option.some.injEq] at h
        subst h
        exact gives_conv ho h1 h2 h3 hn
      · cases h
    · cases hg
  -- load
  · rename_i t y ho
    split at hg
    · rename_i s y' h1 h2
      simp only [Option.some.injEq] at hg
      subst hg
      simp only [pureOp] at h
      split at h
      · rename_i v hv
        split at h
        · rename_i hok
          simp only [Option.some.injEq] at h
          subst h
          exact gives_ld ho h1 h2 hv hok
        · cases h
      · cases h
    · cases hg
  -- fieldAddr
  · rename_i t y f ho
    split at hg
    · rename_i fs y' hu h1
      split at hg
      · rename_i fd hf
        split at hg
        · cases hg
        · rename_i hz
          simp only [Option.some.injEq] at hg
          subst hg
          simp only [pureOp] at h
          split at h
          · rename_i gs hgs
            split at h
            · rename_i v hv
              split at h
              · rename_i hoff
                simp only [Option.some.injEq] at h
                subst h
                exact gives_fa_ref ho hu hf hz h1 hgs hv hoff
              · cases h
            · cases h
          · rename_i n p hp
            split at h
            · rename_i gs hgs
              split at h
              · rename_i hoff
                simp only [Option.some.injEq] at h
                subst h
                exact gives_fa_ptr ho hu hf hz h1 hp hgs hoff.1 hoff.2
              · cases h
            · cases h
          · cases h
      · cases hg
    · cases hg
  -- field
  · rename_i t y f ho
    split at hg
    · rename_i fs y' hu h1
      split at hg
      · rename_i fd hf
        simp only [Option.map_eq_some_iff] at hg
        obtain ⟨s, hs, rfl⟩ := hg
        simp only [pureOp] at h
        split at h
        · rename_i gs hgs
          split at h
          · rename_i v hv
            split at h
            · rename_i hoff
              simp only [Option.some.injEq] at h
              subst h
              exact gives_fl ho hu hf hs h1 hgs hv hoff.1 hoff.2
            · cases h
          · cases h
        · cases h
      · cases hg
    · cases hg
  -- indexAddr
  · rename_i t y i ho
    split at hg
    · rename_i n e y' i' hu h1 h2
      split at hg
      · rename_i hinfo
        obtain ⟨ti, hti⟩ := Option.isSome_iff_exists.1 hinfo
        simp only [Option.some.injEq] at hg
        subst hg
        simp only [pureOp] at h
        split at h
        · rename_i kk k hk
          split at h
          · rename_i hb
            split at h
            · rename_i gs hgs
              split at h
              · rename_i hev
                simp only [Option.map_eq_some_iff] at h
                obtain ⟨v, hv, rfl⟩ := h
                exact gives_ia_ref ho hu hti h1 h2 hgs hk hb hev hv
              · cases h
            · rename_i m p hp
              split at h
              · rename_i gs hgs
                split at h
                · rename_i hev
                  simp only [Option.some.injEq] at h
                  subst h
                  exact gives_ia_ptr ho hu hti h1 h2 hp hk hb hgs hev
                · cases h
              · cases h
            · cases h
          · cases h
        · cases h
      · cases hg
    · rename_i e y' i' hu h1 h2
      split at hg
      · rename_i hinfo
        obtain ⟨ti, hti⟩ := Option.isSome_iff_exists.1 hinfo
        simp only [Option.some.injEq] at hg
        subst hg
        simp only [pureOp] at h
        split at h
        · rename_i kk k hk
          split at h
          · rename_i sz es hes
            split at h
            · rename_i hb
              obtain ⟨rfl, hb⟩ := hb
              simp only [Option.map_eq_some_iff] at h
              obtain ⟨v, hv, rfl⟩ := h
              exact gives_is ho hu hti h1 h2 hes hk hb hv
            · cases h
          · rename_i m l hm
            split at h
            · rename_i T sz es hes
              split at h
              · rename_i hb
                obtain ⟨rfl, rfl, hb⟩ := hb
                simp only [Option.map_eq_some_iff] at h
                obtain ⟨v, hv, rfl⟩ := h
                exact gives_is_own ho hu hti h1 h2 hm hes hk hb hv
              · cases h
            · cases h
          · rename_i m p sz lo l hm
            split at h
            · rename_i fs hfs
              split at h
              · rename_i hb
                simp only [Option.some.injEq] at h
                subst h
                exact gives_is_view ho hu hti h1 h2 hb.1 hm hfs hk hb.2
              · cases h
            · cases h
          · cases h
        · cases h
      · cases hg
    · cases hg
  -- index
  · rename_i t y i ho
    split at hg
    · rename_i n e y' i' hu h1 h2
      simp only [Option.map_eq_some_iff] at hg
      obtain ⟨s, hs, rfl⟩ := hg
      simp only [pureOp] at h
      split at h
      · rename_i kk k hk
        split at h
        · rename_i hb
          split at h
          · rename_i gs hgs
            split at h
            · rename_i hev
              split at h
              · rename_i v hv
                split at h
                · rename_i hok
                  simp only [Option.some.injEq] at h
                  subst h
                  exact gives_ix ho hu hs h1 h2 hgs hk hb hev hv hok
                · cases h
              · cases h
            · cases h
          · cases h
        · cases h
      · cases h
    · cases hg
  -- slice
  · rename_i t y lo hi mx ho
    split at hg
    · rename_i n e y' hu h1
      split at hg
      · split at hg
        · rename_i hinfo
          obtain ⟨ti, hti⟩ := Option.isSome_iff_exists.1 hinfo
          simp only [Option.some.injEq] at hg
          subst hg
          simp only [pureOp] at h
          split at h
          · rename_i m p hp
            split at h
            · rename_i gs hgs
              split at h
              · rename_i hev
                simp only [Option.some.injEq] at h
                subst h
                exact gives_va_ptr ho hu hti h1 hp hgs hev.1 hev.2.1 hev.2.2
              · cases h
            · cases h
          · rename_i gs hgs
            split at h
            · rename_i hev
              simp only [Option.some.injEq] at h
              subst h
              exact gives_va_ref ho hu hti h1 hgs hev.1 hev.2.1
            · cases h
          · cases h
        · cases hg
      · cases hg
    · rename_i e y' hu h1
      split at hg
      · rename_i lo' hi' mx' q1 q2 q3
        split at hg
        · rename_i hc
          obtain ⟨ti, hti⟩ := Option.isSome_iff_exists.1 hc.2
          simp only [Option.some.injEq] at hg
          subst hg
          simp only [pureOp] at h
          split at h
          · rename_i sz es hes
            split at h
            · rename_i hsz
              subst hsz
              exact gives_sl ho hu hti h1 q1 q2 q3 hc.1 (.inl hes) h
            · cases h
          · rename_i sz hes
            split at h
            · rename_i hsz
              subst hsz
              exact gives_sl ho hu hti h1 q1 q2 q3 hc.1 (.inr (.inl ⟨hes, rfl⟩)) h
            · cases h
          · rename_i sz hes
            split at h
            · rename_i hsz
              subst hsz
              exact gives_sl ho hu hti h1 q1 q2 q3 hc.1 (.inr (.inr ⟨hes, rfl⟩)) h
            · cases h
          · rename_i n p sz l0 k hv
            split at h
            · rename_i fs hfs
              split at h
              · rename_i hsz
                exact gives_sl_view ho hu hti h1 q1 q2 q3 hc.1 hsz hv hfs h
              · cases h
            · cases h
          · cases h
        · cases hg
      · cases hg
    · cases hg
  -- build
  · rename_i t parts ho
    split at hg
    · rename_i zs ps hz hp
      split at hg
      · rename_i fs hu
        split at hg
        · rename_i hc
          simp only [Option.some.injEq] at hg
          subst hg
          simp only [pureOp, Option.map_eq_some_iff] at h
          obtain ⟨zs', h, rfl⟩ := h
          exact gives_bld ho hz hp (.inl ⟨fs, hu, hc.1, hc.2⟩) h
        · cases hg
      · rename_i n e hu
        split at hg
        · rename_i hc
          simp only [Option.some.injEq] at hg
          subst hg
          simp only [pureOp, Option.map_eq_some_iff] at h
          obtain ⟨zs', h, rfl⟩ := h
          exact gives_bld ho hz hp (.inr ⟨n, e, hu, hc.1, hc.2.1, hc.2.2⟩) h
        · cases hg
      · cases hg
    · cases hg
  -- buildSlice
  · rename_i t len parts ho
    split at hg
    · rename_i e hu
      split at hg
      · rename_i ps hp
        split at hg
        · rename_i h0
          obtain ⟨rfl, rfl, h0⟩ := h0
          obtain ⟨ti, hti⟩ := Option.isSome_iff_exists.1 h0
          simp only [Option.some.injEq] at hg
          subst hg
          simp only [pureOp, Option.some.injEq] at h
          subst h
          exact gives_bs0 ho hu hti
        split at hg
        · rename_i hc
          obtain ⟨c1, c2, c3, c4, c5⟩ := hc
          simp only [Option.some.injEq] at hg
          subst hg
          simp only [pureOp] at h
          split at h
          · rename_i es hes
            split at h
            · rename_i hev
              simp only [Option.some.injEq] at h
              subst h
              refine gives_bs ho hu hp c1 c2 c3 c4 c5 hes (fun y hy => ?_) hev.2
              have := List.all_eq_true.1 hev.1 y hy
              simpa using this
            · cases h
          · cases h
        · cases hg
      · cases hg
    · cases hg
  -- extract
  · rename_i y i ho
    simp only [Option.map_eq_some_iff] at hg
    obtain ⟨z, hz, rfl⟩ := hg
    simp only [pureOp] at h
    split at h
    · rename_i fs hfs
      exact gives_ext ho hz hfs h
    · cases h
  -- makeFunc
  · rename_i f first caps ho
    split at hg
    · rename_i hfirst
      simp only [Option.map_eq_some_iff] at hg
      obtain ⟨ys, hys, rfl⟩ := hg
      simp only [pureOp] at h
      split at h
      · rename_i hv
        simp only [Option.some.injEq] at h
        subst h
        have hf : first = #[] := by simpa using hfirst
        rw [hf] at ho
        refine gives_mk ho hys (fun y hy => ?_)
        have := List.all_eq_true.1 hv (ev A y) (List.mem_map.2 ⟨y, hy, rfl⟩)
        exact this
      · cases h
    · cases hg
  -- alloc
  · simp only [Option.map_eq_some_iff] at hg
    obtain ⟨z, _, rfl⟩ := hg
    simp [pureOp] at h
  -- box
  · simp only [Option.map_eq_some_iff] at hg
    obtain ⟨z, _, rfl⟩ := hg
    simp [pureOp] at h
  -- store
  · split at hg
    · split at hg
      · simp only [Option.some.injEq] at hg
        subst hg
        simp [pureOp] at h
      · cases hg
    · cases hg
  -- call
  · split at hg
    · simp only [Option.map_eq_some_iff] at hg
      obtain ⟨z, _, rfl⟩ := hg
      simp [pureOp] at h
    · simp only [Option.map_eq_some_iff] at hg
      obtain ⟨z, _, rfl⟩ := hg
      simp [pureOp] at h
  · split at hg
    · simp only [Option.some.injEq] at hg
      subst hg
      simp [pureOp] at h
    · cases hg
  -- len
  · rename_i args tys ho
    split at hg
    · rename_i y ty hargs htys
      have ho' : o.op = .call { callee := .builtin .len, args := #[y], argTypes := #[ty] } := by
        rw [ho]
        have e1 : args = #[y] := by apply Array.ext'; simpa using hargs
        have e2 : tys = #[ty] := by apply Array.ext'; simpa using htys
        rw [e1, e2]
      split at hg
      · rename_i e hu
        simp only [Option.map_eq_some_iff] at hg
        obtain ⟨y', hy, rfl⟩ := hg
        simp only [pureOp] at h
        split at h
        · rename_i sz es hes
          simp only [Option.some.injEq] at h
          subst h
          refine gives_len ho' hu (.inl ⟨e, rfl⟩) hy (fun a w D E hs v hv => ?_)
          rw [hes] at hv
          obtain ⟨ad, cap, e1, e2, e3, _⟩ := rv_slice hv
          exact ⟨Nat.le_trans e2 e3, fun _ => ⟨ad, cap, e1⟩, fun e => by cases e⟩
        · rename_i sz hes
          simp only [Option.some.injEq] at h
          subst h
          refine gives_len (n := 0) ho' hu (.inl ⟨e, rfl⟩) hy (fun a w D E hs v hv => ?_)
          rw [hes] at hv
          obtain ⟨cs, q1, q2⟩ := hv
          simp only [rc] at q2
          exact ⟨by simp [maxLen], fun _ => ⟨none, 0, by simpa [isPack, AV.isAgg, q2] using q1.symm⟩, fun e => by cases e⟩
        · rename_i sz hes
          simp only [Option.some.injEq] at h
          subst h
          refine gives_len (n := 0) ho' hu (.inl ⟨e, rfl⟩) hy (fun a w D E hs v hv => ?_)
          rw [hes] at hv
          obtain ⟨cs, q1, q2⟩ := hv
          simp only [rc] at q2
          obtain ⟨ad, q2⟩ := q2
          exact ⟨by simp [maxLen], fun _ => ⟨ad, 0, by simpa [isPack, AV.isAgg, q2] using q1.symm⟩, fun e => by cases e⟩
        · rename_i m l hm
          split at h
          · rename_i T sz es hes
            split at h
            · rename_i hl
              subst hl
              simp only [Option.some.injEq] at h
              subst h
              refine gives_len ho' hu (.inl ⟨e, rfl⟩) hy (fun a w D E hs v hv => ?_)
              rw [hm] at hv
              rcases hs.own hes hv with ⟨rfl, _, rfl⟩ | ⟨b, cap, cs, pre, rest, _, rfl, _, _, _, _, _, k8, k9, _⟩
              · exact ⟨by simp [maxLen], fun _ => ⟨none, 0, rfl⟩, fun e => by cases e⟩
              · exact ⟨Nat.le_trans k8 k9, fun _ => ⟨_, _, rfl⟩, fun e => by cases e⟩
            · cases h
          · cases h
        · rename_i n p sz lo k hm
          simp only [Option.some.injEq] at h
          subst h
          refine gives_len ho' hu (.inl ⟨e, rfl⟩) hy (fun a w D E hs v hv => ?_)
          rw [hm] at hv
          obtain ⟨cs, q1, q2⟩ := hv
          simp only [rc] at q2
          obtain ⟨b, sh, off, l, _, _, _, q2, q3, q4, _⟩ := q2
          exact ⟨by omega, fun _ => ⟨_, _, by simpa [isPack, AV.isAgg, q2] using q1.symm⟩, fun e => by cases e⟩
        · cases h
      · rename_i hu
        simp only [Option.map_eq_some_iff] at hg
        obtain ⟨y', hy, rfl⟩ := hg
        simp only [pureOp] at h
        split at h
        · rename_i s hs'
          simp only [Option.some.injEq] at h
          subst h
          refine gives_len ho' hu (.inr rfl) hy (fun a w D E hs v hv => ?_)
          rw [hs'] at hv
          obtain ⟨e1, e2⟩ := rv_str hv
          exact ⟨e2, (fun e => by obtain ⟨_, e⟩ := e; cases e), fun _ => ⟨s, e1, rfl⟩⟩
        · cases h
      · cases hg
    · cases hg
  -- append
  · split at hg
    · split at hg
      · split at hg
        · simp only [Option.map_eq_some_iff] at hg
          obtain ⟨z, _, rfl⟩ := hg
          simp [pureOp] at h
        · split at hg
          · simp only [Option.map_eq_some_iff] at hg
            obtain ⟨z, _, rfl⟩ := hg
            simp [pureOp] at h
          · cases hg
      · cases hg
    · cases hg
  -- cap
  · rename_i args tys ho
    split at hg
    · rename_i y ty hargs htys
      have ho' : o.op = .call { callee := .builtin .cap, args := #[y], argTypes := #[ty] } := by
        rw [ho]
        have e1 : args = #[y] := by apply Array.ext'; simpa using hargs
        have e2 : tys = #[ty] := by apply Array.ext'; simpa using htys
        rw [e1, e2]
      split at hg
      · rename_i e hu
        simp only [Option.map_eq_some_iff] at hg
        obtain ⟨y', hy, rfl⟩ := hg
        simp only [pureOp] at h
        split at h
        · rename_i sz hes
          simp only [Option.some.injEq] at h
          subst h
          refine gives_cap ho' hu hy (fun a w D E hs v hv => ?_)
          rw [hes] at hv
          obtain ⟨cs, q1, q2⟩ := hv
          simp only [rc] at q2
          exact ⟨by simp [maxLen], _, _, by simpa [isPack, AV.isAgg, q2] using q1.symm⟩
        · rename_i sz hes
          simp only [Option.some.injEq] at h
          subst h
          refine gives_cap ho' hu hy (fun a w D E hs v hv => ?_)
          rw [hes] at hv
          obtain ⟨cs, q1, q2⟩ := hv
          simp only [rc] at q2
          obtain ⟨ad, q2⟩ := q2
          exact ⟨by simp [maxLen], _, _, by simpa [isPack, AV.isAgg, q2] using q1.symm⟩
        · rename_i n p sz lo k hm
          split at h
          · rename_i fs hfs
            simp only [Option.some.injEq] at h
            subst h
            refine gives_cap ho' hu hy (fun a w D E hs v hv => ?_)
            rw [hm] at hv
            obtain ⟨_, b, cs, T, off, c1, c2, c3, _, _, _, _, _, _, _, _, _, _, _, q1, q2⟩ := hs.view hv hfs
            exact ⟨by omega, _, _, q2⟩
          · cases h
        · cases h
      · cases hg
    · cases hg
  -- clear
  · split at hg
    · split at hg
      · simp only [Option.map_eq_some_iff] at hg
        obtain ⟨z, _, rfl⟩ := hg
        simp [pureOp] at h
      · cases hg
    · cases hg
  -- copy
  · split at hg
    · split at hg
      · split at hg
        · simp only [Option.some.injEq] at hg
          subst hg
          simp [pureOp] at h
        · cases hg
      · cases hg
    · cases hg
  · cases hg
/-! ### calls -/
theorem All2.append {α β : Type} {R : α → β → Prop} : ∀ {xs : List α} {ys : List β} {xs' : List α} {ys' : List β}, All2 R xs ys → All2 R xs' ys' → All2 R (xs ++ xs') (ys ++ ys')
  | _, _, _, _, .nil, h => h
  | _, _, _, _, .cons h1 h2, h => .cons h1 (h2.append h)
theorem rvs_all2 {w : World} {D : Dom} {E : Env} : ∀ {xs : List AV} {vs : List Value}, rvs w D E xs vs → All2 (rv w D E) xs vs
  | [], vs, h => by simp only [rvs] at h; subst h; exact .nil
  | x :: xs, vs, h => by
    simp only [rvs] at h
    obtain ⟨v, rest, cs, rfl, h1, h2, h3⟩ := h
    exact .cons (mk_val h1 h2) (rvs_all2 h3)
theorem callable_spec {P : Program} {f : FuncId} (h : callable P f = true) : ∃ fn, P.funcs[f]? = some fn ∧ ¬ fn.name = "runtime.NumGoroutine" ∧ ¬ fn.body = none := by
  unfold callable at h
  cases hf : P.funcs[f]? with
  | none => simp [hf] at h
  | some fn =>
    simp only [hf, Option.any_some, Bool.and_eq_true, bne_iff_ne, ne_eq] at h
    refine ⟨fn, rfl, by simpa using h.1, ?_⟩
    cases hb : fn.body <;> simp_all
theorem run_callFunc {P : Program} {w : World} {f : FuncId} {args : Array Value} (h : callable P f = true) : (callFunc f args).run P w = .ok (.enter f args) w := by
  obtain ⟨fn, h1, h2, h3⟩ := callable_spec h
  simp [callFunc, h1, h2, h3]
/-- A contract used where a frame's own variables and rows may be among the arguments: the result leads to no memory. -/
theorem Ctr.use_flat {f : FuncId} {avs cargs : List AV} {r : AV} {vs : List Value} {a : Act} {w : World} {D : Dom} {E : Env} (hs : SimW c A a w D E) (h : Ctr c.P f cargs r) (hf : r.flat = true) (hc : fins true A avs = some cargs) (hv : All2 (rv w D E) avs vs) :
    Calls c.P f vs.toArray w fun e w' => ∃ v D', e = .returned v ∧ SimW c A a w' D' E ∧ rv w' D' E r v := by
  have hw : Wide true A D E (fun b _ => b < w.heap.size) := by
    refine ⟨fun b o hd => hs.live b o hd, fun n T sz es b cap hn hE o _ => hs.blk_lt hE rfl, fun _ n x b sh hn hE o _ => hs.blk_lt hE rfl⟩
  have hrv := fin_rvs (E' := E0) hs (fun _ _ h => h) hw avs cargs vs (rvs_of _ _ hv (fins_isVal hc)) hc
  refine (h.2 w _ vs (fun _ _ hd => hd) hrv).mono fun e w' ⟨v, D', he, h1, h2, h3, h4⟩ => ⟨v, D, he, ?_, rv.flat hf h1⟩
  exact hs.grow h2 (fun _ _ hd => hd) (fun _ _ hd _ => hd) (fun b o hd => Nat.lt_of_lt_of_le (hs.live b o hd) h2.size)
/-- A contract used where no variable of the frame's own is handed over. -/
theorem Ctr.use_lead {f : FuncId} {avs cargs : List AV} {r : AV} {vs : List Value} {a : Act} {w : World} {D : Dom} {E : Env} (hs : SimW c A a w D E) (h : Ctr c.P f cargs r) (hc : fins false A avs = some cargs) (hv : All2 (rv w D E) avs vs) :
    Calls c.P f vs.toArray w fun e w' => ∃ v D', e = .returned v ∧ SimW c A a w' D' E ∧ rv w' D' E r v := by
  obtain ⟨hs1, hw⟩ := hs.shareAll
  have hrv := fin_rvs (E' := E0) hs (fun _ _ h => h) hw avs cargs vs (rvs_of _ _ hv (fins_isVal hc)) hc
  refine (h.2 w _ vs hs1.live hrv).mono fun e w' ⟨v, D', he, h1, h2, h3, h4⟩ => ⟨v, fun b o => rowsDom A D E b o ∨ (w.heap.size ≤ b ∧ D' b o), he, ?_, ?_⟩
  · refine hs1.grow h2 (fun _ _ hd => .inl hd) ?_ ?_
    · rintro b o (hd | ⟨hle, _⟩) hlt
      · exact hd
      · omega
    · rintro b o (hd | ⟨_, hd⟩)
      · exact Nat.lt_of_lt_of_le (hs1.live b o hd) h2.size
      · exact h3 b o hd
  · refine rv.later (E := E0) ⟨fun b o hd => ?_, fun _ _ _ _ h => h, fun n b sh hn => by simp [E0] at hn, fun n blk l hn => by simp [E0] at hn⟩ h1
    rcases Nat.lt_or_ge b w.heap.size with hlt | hge
    · exact .inl (h4 b o hd hlt)
    · exact .inr ⟨hge, hd⟩
/-! ### objects that are given up, or handed over -/
theorem lookO_filter (p : Nat → Bool) (os : List (Nat × AO)) (n : Nat) : lookO (os.filter fun q => p q.1) n = if p n then lookO os n else none := by
  induction os with
  | nil => simp [lookO]
  | cons q os ih =>
    obtain ⟨k, v⟩ := q
    simp only [List.filter_cons]
    by_cases hk : p k = true
    · simp only [hk, if_true, lookO, ih]
      by_cases hn : n = k
      · subst hn; simp only [hk, if_true]
      · simp only [if_neg hn]
    · simp only [hk, Bool.false_eq_true, if_false, ih, lookO]
      by_cases hn : n = k
      · subst hn; simp [hk]
      · simp only [if_neg hn]
theorem lookO_drop (ns : List Nat) (os : List (Nat × AO)) (n : Nat) : lookO (dropO ns os) n = if ns.contains n then none else lookO os n := by
  rw [dropO, lookO_filter (fun n => !ns.contains n)]
  cases ns.contains n <;> rfl
theorem lookO_keep (ns : List Nat) (os : List (Nat × AO)) (n : Nat) : lookO (keepO ns os) n = if ns.contains n then lookO os n else none := lookO_filter _ _ _
theorem onlyO_at {p : Nat → Bool} : ∀ {os : List (Nat × AO)}, onlyO p os → ∀ k x, lookO os k = some x → x.only p = true
  | [], _, k, x, hx => by simp [lookO] at hx
  | (j, v) :: r, h, k, x, hx => by
    simp only [onlyO] at h
    simp only [lookO] at hx
    split at hx
    · simp only [Option.some.injEq] at hx; subst hx; exact h.1
    · exact onlyO_at h.2 k x hx
theorem look_fgt (ns : List Nat) : ∀ (ts : List (Nat × AV)) (t : Nat), look (fgt ns ts) t = if (look ts t).only (fun n => !ns.contains n) then look ts t else .top
  | [], t => by simp [fgt, look, AV.only]
  | (k, v) :: r, t => by
    simp only [fgt, List.map_cons, look]
    by_cases h : t = k
    · simp only [if_pos h]
    · simp only [if_neg h]; exact look_fgt ns r t
/-- Objects of these names are written no more: they may be read for good. -/
theorem SimW.freeze {a : Act} {w : World} {D : Dom} {E : Env} {ts : List (Nat × AV)} {os0 : List (Nat × AO)} (h : SimW c (mkA ts os0) a w D E) (ns : List Nat) (ho : onlyO (fun n => !ns.contains n) (dropO ns os0)) :
    ∃ D' E', SimW c (mkA (fgt ns ts) (dropO ns os0)) a w D' E' ∧ Wide true (mkA ts (keepO ns os0)) D E D' := by
  have h1 := h.shareAll.1
  have hw1 := h.shareAll.2
  obtain ⟨D1, hD1⟩ : ∃ D1, D1 = rowsDom (mkA ts os0) D E := ⟨_, rfl⟩
  rw [← hD1] at h1 hw1
  obtain ⟨D2, hD2⟩ : ∃ D2 : Dom, D2 = fun b o => D1 b o ∨ ∃ n x sh, ns.contains n = true ∧ lookO os0 n = some (.box x) ∧ E n = some (.bx b sh) ∧ o < x.size := ⟨_, rfl⟩
  obtain ⟨E2, hE2⟩ : ∃ E2 : Env, E2 = fun n => if ns.contains n then none else E n := ⟨_, rfl⟩
  have e2 : ∀ n, (!ns.contains n) = true → E2 n = E n := fun n hn => by rw [hE2]; simp at hn; simp [hn]
  have hl : Later w D1 E2 w D2 E2 := ⟨fun b o hd => by rw [hD2]; exact .inl hd, fun _ _ _ _ h => h, fun _ _ _ h => h, fun _ blk l h => ⟨blk, l, h, Nat.le_refl _, fun _ => rfl⟩⟩
  have new : ∀ b o, D2 b o → D1 b o ∨ ∃ n x cs T, ns.contains n = true ∧ lookO os0 n = some (.box x) ∧ E n = some (.bx b x.sh) ∧ c.Mine b ∧ w.heap[b]? = some (.cells cs T (0, 0)) := fun b o hd => by
    rw [hD2] at hd
    rcases hd with hd | ⟨n, x, sh, k1, k2, k3, k4⟩
    · exact .inl hd
    · obtain ⟨b', cs, T, q1, q2, q3, _⟩ := h.box (n := n) (x := x) (by simpa [mkA] using k2)
      rw [k3] at q1
      simp only [Option.some.injEq, Ent.bx.injEq] at q1
      obtain ⟨rfl, rfl⟩ := q1
      exact .inr ⟨n, x, cs, T, k1, k2, k3, q2, q3⟩
  refine ⟨D2, E2, ⟨h1.sz, h1.defs, fun t => ?_, h1.unch, fun b o hd hm => ?_, fun b o hd => ?_, fun n => ?_, fun n m e e' b g1 g2 g3 g4 => ?_, fun n e hn hfx => ?_, h1.nam, fun b o hd => hl.dom b o (h1.up b o hd), h1.yok⟩, ?_⟩
  · simp only [mkA, look_fgt]
    have ht := h1.tm t
    simp only [mkA] at ht
    split
    · rename_i hp
      exact rv.later hl (rv.restrict e2 hp ht)
    · simp [rv]
  · rcases new b o hd with hd | ⟨n, x, cs, T, _, _, _, k, _⟩
    · exact h1.dom b o hd hm
    · exact absurd k hm
  · rcases new b o hd with hd | ⟨n, x, cs, T, _, _, _, _, k⟩
    · exact h1.live b o hd
    · exact heap_lt k
  · simp only [mkA, lookO_drop]
    by_cases hn : ns.contains n = true
    · simp only [hn, if_true, objOk]; rw [hE2]; simp only [hn, if_true]
    · have hnb : (!ns.contains n) = true := by simpa using hn
      simp only [hn, Bool.false_eq_true, if_false]
      have hob := h1.obj n
      simp only [mkA] at hob
      cases hx : lookO os0 n with
      | none => rw [hx] at hob; simp only [objOk] at hob ⊢; rw [e2 n hnb]; exact hob
      | some x =>
        have hon := onlyO_at ho n x (by rw [lookO_drop, if_neg hn]; exact hx)
        have nD : ∀ e b, E n = some e → e.blk = some b → ∀ o, D2 b o → D1 b o := fun e b he hb o hd => by
          rcases new b o hd with hd | ⟨m, y, cs, T, k1, k2, k3, _⟩
          · exact hd
          · have := h.sep n m e _ b he k3 hb rfl
            subst this
            exact absurd k1 hn
        rw [hx] at hob
        cases x with
        | box x =>
          obtain ⟨b, cs, T, k1, k2, k3, k4, k5⟩ := hob
          exact ⟨b, cs, T, (e2 n hnb).trans k1, k2, k3, rc.later hl _ _ (rc.restrict e2 _ _ (by simpa [AO.only] using hon) k4), fun o hd => k5 o (nD _ b k1 rfl o hd)⟩
        | row T sz es =>
          obtain ⟨blk, k1, k2, k3⟩ := hob
          refine ⟨blk, (e2 n hnb).trans k1, k2, ?_⟩
          cases blk with
          | none => exact k3
          | some bc =>
            obtain ⟨b, cap⟩ := bc
            obtain ⟨cs, pre, rest, q1, q2, q3, q4, q5, q6, q7, q8⟩ := k3
            exact ⟨cs, pre, rest, q1, q2, q3, rcs.later hl _ _ (rcs.restrict e2 _ _ (by simpa [AO.only] using hon) q4), q5, q6, q7, fun o hd => q8 o (nD _ b k1 rfl o hd)⟩
        | opq x =>
          obtain ⟨b, k1, k2, k3, k4, k5⟩ := hob
          exact ⟨b, (e2 n hnb).trans k1, k2, k3, k4, fun o hd => k5 o (nD _ b k1 rfl o hd)⟩
  · have cut : ∀ n e, E2 n = some e → E n = some e := fun n e he => by
      rw [hE2] at he
      simp only at he
      split at he
      · cases he
      · exact he
    exact h.sep n m e e' b (cut n e g1) (cut m e' g2) g3 g4
  · by_cases hm : ns.contains n = true
    · left; rw [hE2]; simp only [hm, if_true]
    · rw [e2 n (by simpa using hm)]; exact h.hist n e hn hfx
  · refine ⟨fun b o hd => by rw [hD2]; exact .inl (hw1.dom b o hd), fun n T sz es b cap hn hE o hlt => ?_, fun _ n x b sh hn hE o hlt => ?_⟩
    · simp only [mkA, lookO_keep] at hn
      split at hn
      · rw [hD2]; exact .inl (hw1.row n T sz es b cap hn hE o hlt)
      · cases hn
    · simp only [mkA, lookO_keep] at hn
      split at hn
      · rename_i hk
        rw [hD2]; exact .inr ⟨n, x, sh, hk, hn, hE, hlt⟩
      · cases hn
theorem Ctr.use_free {f : FuncId} {avs cargs : List AV} {r : AV} {vs : List Value} {a : Act} {w : World} {D : Dom} {E : Env} {ts : List (Nat × AV)} {os0 : List (Nat × AO)} (hs : SimW c (mkA ts os0) a w D E) (ns : List Nat) (ho : onlyO (fun n => !ns.contains n) (dropO ns os0))
    (h : Ctr c.P f cargs r) (hc : fins true (mkA ts (keepO ns os0)) avs = some cargs) (hv : All2 (rv w D E) avs vs) :
    Calls c.P f vs.toArray w fun e w' => ∃ v D' E', e = .returned v ∧ SimW c (mkA (fgt ns ts) (dropO ns os0)) a w' D' E' ∧ rv w' D' E' r v := by
  obtain ⟨D1, E1, hs1, hw⟩ := hs.freeze ns ho
  have hu : Up (mkA ts (keepO ns os0)) (mkA ts os0) := fun n x hx => by
    simp only [mkA, lookO_keep] at hx ⊢
    split at hx
    · exact hx
    · cases hx
  have hrv := fin_rvs (E' := E0) hs hu hw avs cargs vs (rvs_of _ _ hv (fins_isVal hc)) hc
  refine (h.2 w _ vs hs1.live hrv).mono fun e w' ⟨v, D', he, h1, h2, h3, h4⟩ => ⟨v, fun b o => D1 b o ∨ (w.heap.size ≤ b ∧ D' b o), E1, he, ?_, ?_⟩
  · refine hs1.grow h2 (fun _ _ hd => .inl hd) ?_ ?_
    · rintro b o (hd | ⟨hle, _⟩) hlt
      · exact hd
      · omega
    · rintro b o (hd | ⟨_, hd⟩)
      · exact Nat.lt_of_lt_of_le (hs1.live b o hd) h2.size
      · exact h3 b o hd
  · refine rv.later (E := E0) ⟨fun b o hd => ?_, fun _ _ _ _ h => h, fun n b sh hn => by simp [E0] at hn, fun n blk l hn => by simp [E0] at hn⟩ h1
    rcases Nat.lt_or_ge b w.heap.size with hlt | hge
    · exact .inl (h4 b o hd hlt)
    · exact .inr ⟨hge, hd⟩
theorem args_hand {a : Act} {w : World} {D D1 : Dom} {E : Env} {ts : List (Nat × AV)} {os0 os : List (Nat × AO)} {ρ : List (Nat × Nat)} {bx : Bool} {A0 : AState} (hs : SimW c (mkA ts os0) a w D E) (hu : Up A0 (mkA ts os0)) (hD : ∀ b o, D b o → D1 b o) (hw : Wide bx A0 D E D1) :
    ∀ (avs cargs : List AV) (vs : List Value), argsOk bx A0 ρ os avs cargs → All2 (rv w D E) avs vs → rvs w D1 (hE ρ os E) cargs vs
  | [], [], vs, _, hv => by cases hv; simp [rvs]
  | [], _ :: _, _, h, _ => by simp [argsOk] at h
  | _ :: _, [], _, h, _ => by simp [argsOk] at h
  | x :: xs, y :: ys, vs, h, hv => by
    cases hv with
    | cons hv hvs =>
    rename_i v vs
    simp only [argsOk] at h
    have ih := args_hand hs hu hD hw xs ys vs h.2 hvs
    have hl : Later w D (hE ρ os E) w D1 (hE ρ os E) := ⟨hD, fun _ _ _ _ h => h, fun _ _ _ h => h, fun _ blk l h => ⟨blk, l, h, Nat.le_refl _, fun _ => rfl⟩⟩
    have h1 : ∃ cs, isPack y v cs ∧ rc w D1 (hE ρ os E) y cs := by
      rcases h.1 with ⟨k1, k2, k3⟩ | k
      · rw [k1] at hv
        have h2 := rv.later hl ((rv.ren (w := w) (D := D) (p := isIn os) (ρ := rnm ρ) (E := hE ρ os E) (E' := E) (fun n hn => by simp only [hE, hn, if_true]) k2).1 hv)
        cases y <;> simp only [rv] at h2 <;> first | (simp [AV.isVal] at k3; done) | exact h2
      · have h2 : rvs w D E [x] [v] := rvs_of [x] [v] (.cons hv .nil) (by
          intro z hz
          simp only [List.mem_singleton] at hz
          subst hz
          cases z <;> simp_all [fin, AV.isVal])
        have h3 := fin_rvs (E' := hE ρ os E) hs hu hw [x] [y] [v] h2 (by simp [fins, k])
        simp only [rvs] at h3
        obtain ⟨v', rest, cs, e, k1, k2, _⟩ := h3
        simp only [List.cons.injEq] at e
        obtain ⟨rfl, _⟩ := e
        exact ⟨cs, k1, k2⟩
    obtain ⟨cs, k1, k2⟩ := h1
    simp only [rvs]
    exact ⟨v, vs, cs, rfl, k1, k2, ih⟩
theorem Up.drop (ts : List (Nat × AV)) (ns : List Nat) (os0 : List (Nat × AO)) : Up (mkA ts (dropO ns os0)) (mkA ts os0) := fun n x hx => by
  simp only [mkA, lookO_drop] at hx ⊢
  split at hx
  · cases hx
  · exact hx
/-- A call that is handed objects. -/
theorem Hand.use {run : Array Value → World → (Ending → World → Prop) → Prop} {since : World → Dom → Env → Prop} {avs cargs : List AV} {post : Post} {vs : List Value} {a : Act} {w : World} {D : Dom} {E : Env} {ts : List (Nat × AV)} {os0 os : List (Nat × AO)} {ρ : List (Nat × Nat)}
    (hs : SimW c (mkA ts os0) a w D E) (h : Hand run since cargs os post) (bx : Bool) (hmono : ∀ {vs w R R'}, run vs w R → (∀ e w, R e w → R' e w) → run vs w R') (hsince : (bx = true → ∀ D E, since w D E) ∧ (bx = false → since w (rowsDom (mkA ts os0) D E) (hE ρ os E)))
    (hg : Gvn ρ os os0) (ha : argsOk bx (mkA ts (dropO (names ρ os) os0)) ρ os avs cargs) (hb : ∀ r os', post r os' → Bck bx ρ os os0 r os') (hv : All2 (rv w D E) avs vs) :
    run vs.toArray w fun e w' => ∃ v r os' D2 E2, e = .returned v ∧ post r os' ∧ SimW c (mkA ts (renO ρ os' ++ os0)) a w' D2 E2 ∧ rv w' D2 E2 (r.ren (rnm ρ)) v ∧ ∀ m e, hE ρ os E m = some e → e.fix = true → isIn os' m = true → E2 (rnm ρ m) = some e := by
  have notName : ∀ n, (names ρ os).contains n = false → ∀ m, isIn os m = true → rnm ρ m ≠ n := fun n hn m hm he => by
    obtain ⟨q, hq, rfl⟩ := isIn_iff.1 hm
    have : (names ρ os).contains n = true := by simp only [names, List.contains_iff_mem, List.mem_map]; exact ⟨q, hq, he⟩
    rw [this] at hn; cases hn
  have other : ∀ {D : Dom}, SimW c (mkA ts os0) a w D E → ∀ n e b x, lookO (dropO (names ρ os) os0) n = some x → E n = some e → e.blk = some b → ¬ ownE (hE ρ os E) b := fun hs n e b x hx he hb ho => by
    obtain ⟨m, e', h1, h2, hb', _⟩ := hs.given_own hg ho
    rw [lookO_drop] at hx
    split at hx
    · cases hx
    · rename_i hc
      have := hs.sep n (rnm ρ m) e _ b he h2 hb hb'
      exact notName n (by simpa using hc) m h1 this.symm
  cases bx with
  | true =>
    obtain ⟨D1, hD1⟩ : ∃ D1 : Dom, D1 = fun b _ => b < w.heap.size ∧ ¬ ownE (hE ρ os E) b := ⟨_, rfl⟩
    have hD : ∀ b o, D b o → D1 b o := fun b o hd => by
      rw [hD1]
      exact ⟨hs.live b o hd, fun ho => by obtain ⟨m, e, _, _, _, _, _, h5, _⟩ := hs.given_own hg ho; exact h5 o hd⟩
    have hw : Wide true (mkA ts (dropO (names ρ os) os0)) D E D1 := by
      refine ⟨hD, fun n T sz es b cap hn hE o _ => ?_, fun _ n x b sh hn hE o _ => ?_⟩
      · rw [hD1]; exact ⟨hs.blk_lt hE rfl, other hs n _ b _ hn hE rfl⟩
      · rw [hD1]; exact ⟨hs.blk_lt hE rfl, other hs n _ b _ hn hE rfl⟩
    have hrv := args_hand hs (Up.drop ts _ os0) hD hw avs cargs vs ha hv
    refine hmono (h w D1 (hE ρ os E) vs (hsince.1 rfl _ _) (fun b o hd => by rw [hD1] at hd; exact hd.1) (hs.heldO hg hD fun b o hd => by rw [hD1] at hd; exact hd.2) hrv) ?_
    rintro e w' ⟨v, D', E', r, os', he, hp, h1, h2, h3, h4, h5, h6, h7⟩
    obtain ⟨D2, E2, k1, k2⟩ := hs.back hg hD (fun h => by cases h) (hb r os' hp) h1 h2 h3 h5 h6 h7
    exact ⟨v, r, os', D2, E2, he, hp, k1, k2⟩
  | false =>
    obtain ⟨hs1, hw⟩ := hs.shareAll
    have hw' : Wide false (mkA ts (dropO (names ρ os) os0)) D E (rowsDom (mkA ts os0) D E) := ⟨hw.dom, fun n T sz es b cap hn hE o hlt => hw.row n T sz es b cap (Up.drop ts _ os0 n _ hn) hE o hlt, fun hb => by cases hb⟩
    have hrv := args_hand hs (Up.drop ts _ os0) hw.dom hw' avs cargs vs ha hv
    have hown : ∀ b o, rowsDom (mkA ts os0) D E b o → ¬ ownE (hE ρ os E) b := fun b o hd ho => by
      obtain ⟨m, e, _, _, _, _, _, h5, _⟩ := hs1.given_own hg ho
      exact h5 o hd
    refine hmono (h w _ (hE ρ os E) vs (hsince.2 rfl) hs1.live (hs1.heldO hg (fun _ _ h => h) hown) hrv) ?_
    rintro e w' ⟨v, D', E', r, os', he, hp, h1, h2, h3, h4, h5, h6, h7⟩
    obtain ⟨D2, E2, k1, k2⟩ := hs1.back hg (fun _ _ h => h) (fun _ _ _ h => h) (hb r os' hp) h1 h2 h3 h5 h6 h7
    exact ⟨v, r, os', D2, E2, he, hp, k1, k2⟩
theorem SimW.since {A : AState} {a : Act} {w : World} {D : Dom} {E E' : Env} (h : SimW c A a w D E) (hE : ∀ n, E' n = E n ∨ E' n = none) : Since c w D E' :=
  ⟨h.unch, h.up, h.dom, fun n e hn hfx => by
    rcases hE n with k | k
    · rw [k]; exact h.hist n e hn hfx
    · exact .inl k⟩
/-! ### a run of operations, in their order -/
theorem fn_wide (c : Ctx) (f : FuncId) : c.F.fn f := by unfold Ctx.F; split <;> trivial
theorem depth_wide (c : Ctx) : c.F.depth.isSome = true → 1 ≤ 9 := fun _ => by omega
theorem about_wide {a : Act} {w : World} : ∀ f, o.about c.P w a.eval = some f → c.F.fn f := fun f _ => fn_wide c f
theorem sem_at {g : AOp} (hg : cOp c.P o = some g) (r : Option Nat) (ρ : Operand → Value) : o.semAt r ρ = execOp ρ o := by
  cases r with
  | none => rfl
  | some l =>
    refine Oper.semAt_some l ρ o fun cl h => ?_
    unfold cOp at hg
    rw [h] at hg
    simp at hg
theorem calls_in {f : FuncId} {args : Array Value} {w : World} {R : Ending → World → Prop} (h : Calls c.P f args w R) : CallsIn c.F (9 - 1) c.P f args w R := by
  have h1 : CallsIn Fence.wide (9 - 1) c.P f args w R := callsIn_wide.2 h
  unfold Ctx.F
  split
  · exact h1
  · exact h1
theorem YRun.mono {P : Program} {v : Value} {vs : Array Value} {w : World} {R R' : Ending → World → Prop} (h : YRun P v vs w R) (hr : ∀ e w, R e w → R' e w) : YRun P v vs w R' := by
  obtain ⟨l, h1, fn, tmps, assign, body, h2, h3⟩ := h
  exact ⟨l, h1, fn, tmps, assign, body, h2, h3.mono hr⟩
theorem round_in {l : Nat} {f : FuncId} {tmps : Array Value} {assign body : Code} {w : World} {R : Ending → World → Prop} (h : RoundIn Fence.wide 9 c.P l f tmps assign body w R) : RoundIn c.F (9 - 1) c.P l f tmps assign body w R := by
  have h1 : RoundIn Fence.wide (9 - 1) c.P l f tmps assign body w R := ⟨h.1, fun cc cs _ => h.2 cc cs (room_wide _)⟩
  unfold Ctx.F
  split
  · exact h1
  · exact h1
theorem Does.wp {B : AState} {g : AOp} (hg : cOp c.P o = some g) (h : Does c A o B) {a : Act} {w : World} {K : Act → World → Prop} {Q : Exit → Act → World → Prop} (hs : Sim c A a w) (hK : ∀ a w, Sim c B a w → K a w) : o.wpIn c.F 9 c.P a w K Q := by
  obtain ⟨D, E, hs⟩ := hs
  obtain ⟨w', h⟩ := h a w D E hs
  refine ⟨about_wide, ?_⟩
  rw [sem_at hg]
  rcases h with ⟨v, h1, h2⟩ | ⟨h1, h2⟩
  · rw [h1]; exact hK _ _ h2
  · rw [h1]; exact hK _ _ h2
theorem call_wp {dr : Bool} {K : AState → Prop} {f : FuncId} {avs : List AV} {a1 a2 : Option (List AV)} {vs : List Value} {dst : Option Nat} {rest : List G} {a : Act} {w : World} {Kw : Act → World → Prop} {Q : Exit → Act → World → Prop} {g : AOp} (hg : cOp c.P o = some g) (h1 : fins true A avs = a1) (h2 : fins false A avs = a2)
    (hs : ∀ D E, SimW c A a w D E → All2 (rv w D E) avs vs) (hsim : Sim c A a w) (hwp : WP c.P c.Y dr K (.call f avs a1 a2 dst rest A)) (hd : o.dst = dst) (hdn : ∀ k, dst = some k → k < c.n)
    (hrun : callable c.P f = true → (execOp a.eval o).run c.P w = .ok (.enter f vs.toArray) w)
    (hK : ∀ B a' w', WP c.P c.Y dr K (aops rest B) → Sim c B a' w' → Kw a' w') : o.wpIn c.F 9 c.P a w Kw Q := by
  obtain ⟨D, E, hsw⟩ := hsim
  have start : ∀ {R : Ending → World → Prop}, callable c.P f = true → Calls c.P f vs.toArray w R → (∀ e w', R e w' → ∃ v, e = .returned v ∧ Kw (a.put o.dst v) w') → o.wpIn c.F 9 c.P a w Kw Q := fun {R} hc hcl hR => by
    refine ⟨about_wide, ?_⟩
    rw [sem_at hg, hrun hc, Oper.uponIn_enter]
    refine ⟨depth_wide c, calls_in (hcl.mono fun e w' he => ?_)⟩
    obtain ⟨v, rfl, hv⟩ := hR e w' he
    exact hv
  cases hwp with
  | flat r hspec hflat hrest =>
    refine start hspec.1 (hspec.use_flat hsw hflat h1 (hs D E hsw)) ?_
    rintro e w' ⟨v, D', he, hs', hv⟩
    refine ⟨v, he, ?_⟩
    rw [hd]
    exact hK _ _ _ hrest ⟨D', E, hs'.putO hdn hv⟩
  | lead r hspec hrest =>
    refine start hspec.1 (hspec.use_lead hsw h2 (hs D E hsw)) ?_
    rintro e w' ⟨v, D', he, hs', hv⟩
    refine ⟨v, he, ?_⟩
    rw [hd]
    exact hK _ _ _ hrest ⟨D', E, hs'.putO hdn hv⟩
  | free ns r hdr hspec hf ho hrest =>
    refine start hspec.1 (hspec.use_free hsw ns ho hf (hs D E hsw)) ?_
    rintro e w' ⟨v, D', E', he, hs', hv⟩
    refine ⟨v, he, ?_⟩
    rw [hd]
    exact hK _ _ _ hrest ⟨D', E', hs'.putO hdn hv⟩
  | obj bx ρ os cargs post hdr hspec hgv ha hb hrest =>
    refine start hspec.1 (hspec.2.use hsw bx (fun h => h.mono) ⟨fun _ _ _ => trivial, fun _ => trivial⟩ hgv ha hb (hs D E hsw)) ?_
    rintro e w' ⟨v, r, os', D2, E2, he, hp, hs', hv, _⟩
    refine ⟨v, he, ?_⟩
    rw [hd]
    exact hK _ _ _ (hrest r os' hp) ⟨D2, E2, hs'.putO hdn hv⟩
theorem callr_wp {dr : Bool} {K : AState → Prop} {v : Value} {avs : List AV} {vs : List Value} {dst : Option Nat} {rest : List G} {a : Act} {w : World} {Kw : Act → World → Prop} {Q : Exit → Act → World → Prop} {g : AOp} (hg : cOp c.P o = some g)
    (hs : ∀ D E, SimW c A a w D E → All2 (rv w D E) avs vs) (hsim : Sim c A a w) (hwp : WP c.P c.Y dr K (.callr v avs dst rest A)) (hd : o.dst = dst) (hdn : ∀ k, dst = some k → k < c.n)
    (hrun : ∀ l, v = .func (.yield l) #[] #[] → (execOp a.eval o).run c.P w = (Instr.yield l vs.toArray).run c.P w)
    (hK : ∀ B a' w', WP c.P c.Y dr K (aops rest B) → Sim c B a' w' → Kw a' w') : o.wpIn c.F 9 c.P a w Kw Q := by
  obtain ⟨D, E, hsw⟩ := hsim
  cases hwp with
  | yld os cargs post hdr hY hgv ha hb hrest =>
    have hyr := (hsw.yok _ _ _ _ hY).use (ρ := []) hsw false (fun h => h.mono) ⟨(fun h => by cases h), fun _ => hsw.shareAll.1.since (fun n => by simp only [hE, rnm]; split <;> simp)⟩ hgv ha hb (hs D E hsw)
    obtain ⟨l, rfl, fn, tmps, assign, body, h2, h3⟩ := hyr
    refine ⟨about_wide, ?_⟩
    rw [sem_at hg, hrun l rfl, h2, Oper.uponIn_round]
    refine ⟨depth_wide c, round_in (h3.mono fun e w' he => ?_)⟩
    obtain ⟨v, r, os', D2, E2, rfl, hp, hs', hv, _⟩ := he
    rw [hd]
    exact hK _ _ _ (hrest r os' hp) ⟨D2, E2, hs'.putO hdn hv⟩
end
end Go.Abs

/-
  THE ABSTRACT LAYER, 13: regions, and the shapes of code. Over any program.
-/
namespace Go.Abs
open Go Go.RowKit
section
variable {c : Ctx} {A : AState} {o : Oper}
theorem cG_spec {P : Program} {n : Nat} {ops : Array Oper} {g : G} (h : cG P n ops o = some g) : cOp P o = some g.op ∧ g.dst = o.dst ∧ (∀ k, o.dst = some k → k < n) ∧
    ((o.guard = none ∧ g.guard = none) ∨ ∃ j b t, o.guard = some (j, b) ∧ (ops[j]?).bind (·.dst) = some t ∧ g.guard = some (t, b)) := by
  unfold cG at h
  split at h
  · cases h
  rename_i g' hg'
  split at h
  case isFalse => cases h
  rename_i hd
  have hdst : ∀ k, o.dst = some k → k < n := by
    intro k hk
    rw [hk] at hd
    simpa [dstOk] using hd
  split at h
  · rename_i hgd
    simp only [Option.some.injEq] at h
    subst h
    exact ⟨hg', rfl, hdst, .inl ⟨hgd, rfl⟩⟩
  · rename_i j b hgd
    split at h
    · rename_i t ht
      simp only [Option.some.injEq] at h
      subst h
      exact ⟨hg', rfl, hdst, .inr ⟨j, b, t, hgd, ht, rfl⟩⟩
    · cases h
/-- One operation. -/
theorem g_sound {dr : Bool} {K : AState → Prop} {g : G} {op : AOp} {dst : Option Nat} {rest : List G} {a : Act} {w : World} {Kw : Act → World → Prop} {Q : Exit → Act → World → Prop} (hop : cOp c.P o = some op) (hd : o.dst = dst) (hdn : ∀ k, dst = some k → k < c.n)
    (hwp : WP c.P c.Y dr K (gStep A dst op rest (aops rest))) (hsim : Sim c A a w) (hK : ∀ B a' w', WP c.P c.Y dr K (aops rest B) → Sim c B a' w' → Kw a' w') : o.wpIn c.F 9 c.P a w Kw Q := by
  have pure : ∀ v, pureOp A op = some v → WP c.P c.Y dr K (aops rest (A.putO dst v)) → o.wpIn c.F 9 c.P a w Kw Q := fun v hv hw =>
    ((pure_sound hop hv).does (by rw [hd]; exact hdn)).wp hop hsim (fun a' w' hs => by rw [hd] at hs; exact hK _ a' w' hw hs)
  have gen : WP c.P c.Y dr K (bindR (pureOp A op) fun v => aops rest (A.putO dst v)) → o.wpIn c.F 9 c.P a w Kw Q := by
    intro h
    cases hv : pureOp A op with
    | some v => rw [hv] at h; exact pure v hv h
    | none => rw [hv] at h; cases h
  have hop0 := hop
  cases op with
  | alloc z =>
    simp only [gStep] at hwp
    split at hwp
    case h_2 => cases hwp
    rename_i d
    split at hwp
    case h_2 => cases hwp
    rename_i hf
    unfold cOp at hop
    split at hop <;> try (first | (simp at hop; done) | ((repeat' split at hop) <;> simp at hop; done))
    rename_i t ho
    simp only [Option.map_eq_some_iff, AOp.alloc.injEq] at hop
    obtain ⟨z', hz, rfl⟩ := hop
    exact (does_alloc ho hz hd (hdn d rfl) hf).wp hop0 hsim (fun a' w' hs => hK _ a' w' hwp hs)
  | box x =>
    simp only [gStep] at hwp
    split at hwp
    case h_2 => cases hwp
    rename_i d
    split at hwp
    case h_2 => cases hwp
    rename_i hf
    split at hwp
    case isFalse => cases hwp
    rename_i hv
    unfold cOp at hop
    split at hop <;> try (first | (simp at hop; done) | ((repeat' split at hop) <;> simp at hop; done))
    rename_i t y ho
    simp only [Option.map_eq_some_iff, AOp.box.injEq] at hop
    obtain ⟨z', hz, rfl⟩ := hop
    exact (does_box ho hz hv hd (hdn d rfl) hf).wp hop0 hsim (fun a' w' hs => hK _ a' w' hwp hs)
  | st s x v =>
    simp only [gStep] at hwp
    split at hwp
    case h_2 => cases hwp
    split at hwp
    case h_2 => cases hwp
    rename_i n p hp
    split at hwp
    case h_2 => cases hwp
    rename_i b hb
    split at hwp
    case h_2 => cases hwp
    rename_i old hat
    split at hwp
    case isFalse => cases hwp
    rename_i hok
    unfold cOp at hop
    split at hop <;> try (first | (simp at hop; done) | ((repeat' split at hop) <;> simp at hop; done))
    rename_i t y z ho
    split at hop
    case h_2 => cases hop
    rename_i s' x' v' h1 h2 h3
    split at hop
    case isFalse => cases hop
    rename_i hk
    simp only [Option.some.injEq, AOp.st.injEq] at hop
    obtain ⟨rfl, rfl, rfl⟩ := hop
    exact (does_st ho h1 hk h2 h3 hp hb hat hok.1 hok.2.1 hok.2.2 hd).wp hop0 hsim (fun a' w' hs => hK _ a' w' hwp hs)
  | call f args =>
    simp only [gStep] at hwp
    unfold cOp at hop
    split at hop <;> try (first | (simp at hop; done) | ((repeat' split at hop) <;> simp at hop; done))
    rename_i f' xs ts ho
    split at hop
    case isFalse => simp at hop
    simp only [Option.map_eq_some_iff, AOp.call.injEq] at hop
    obtain ⟨ys, hys, rfl, rfl⟩ := hop
    refine call_wp (vs := xs.toList.map a.eval) hop0 rfl rfl (fun D E hs => args_ok hs xs.toList ts.toList ys hys) hsim hwp hd hdn (fun hc => ?_) hK
    have e : xs.map a.eval = (xs.toList.map a.eval).toArray := by apply Array.ext'; simp
    simp only [execOp, ho, resolve, Act.eval, Deferred.ofValue, Sem.run_bind, Sem.run_pure, Result.andThen_ok, invoke, Array.append_empty, Array.empty_append, run_callFunc hc]
    rw [← e]
  | xcall f args =>
    simp only [gStep] at hwp
    unfold cOp at hop
    split at hop <;> try (first | (simp at hop; done) | ((repeat' split at hop) <;> simp at hop; done))
    rename_i f' xs ts ho
    split at hop
    case isTrue => simp at hop
    simp only [Option.map_eq_some_iff, AOp.xcall.injEq] at hop
    obtain ⟨ys, hys, rfl, rfl⟩ := hop
    obtain ⟨D, E, hs⟩ := hsim
    cases hwp with
    | ext r hdr hx hw =>
      obtain ⟨v, g1, g2⟩ := hx c a w D E (xs.toList.map a.eval) rfl hs (args_ok hs xs.toList ts.toList ys hys)
      have e : xs.map a.eval = (xs.toList.map a.eval).toArray := by apply Array.ext'; simp
      have hrun : (execOp a.eval o).run c.P w = .ok (.value v) w := by
        simp only [execOp, ho, resolve, Act.eval, Deferred.ofValue, Sem.run_bind, Sem.run_pure, Result.andThen_ok, invoke, Array.append_empty, Array.empty_append]
        rw [← e] at g1
        exact g1
      refine ⟨about_wide, ?_⟩
      rw [sem_at hop0, hrun, Oper.uponIn_value]
      exact hK _ _ _ hw ⟨D, E, by rw [hd]; exact hs.putO hdn g2⟩
  | callv x args =>
    simp only [gStep] at hwp
    unfold cOp at hop
    split at hop <;> try (first | (simp at hop; done) | ((repeat' split at hop) <;> simp at hop; done))
    rename_i y xs ts _ ho
    split at hop
    case h_2 => cases hop
    rename_i y' ys h1 h2
    simp only [Option.some.injEq, AOp.callv.injEq] at hop
    obtain ⟨rfl, rfl⟩ := hop
    obtain ⟨D, E, hs⟩ := hsim
    have hv := ev_ok hs h1
    split at hwp
    · rename_i f caps hx
      rw [hx] at hv
      obtain ⟨cs, q1, q2⟩ := hv
      simp only [rc] at q2
      obtain ⟨vs, q3, q4⟩ := q2
      have hval : a.eval y = .func (.func f) #[] vs.toArray := by simpa [isPack, AV.isAgg, q3] using q1.symm
      refine call_wp (vs := xs.toList.map a.eval ++ vs) hop0 rfl rfl (fun D' E' hs' => (args_ok hs' xs.toList ts.toList ys h2).append ?_) ⟨D, E, hs⟩ hwp hd hdn (fun hc => ?_) hK
      · have hv' := ev_ok hs' h1
        rw [hx] at hv'
        obtain ⟨cs', q1', q2'⟩ := hv'
        simp only [rc] at q2'
        obtain ⟨vs', q3', q4'⟩ := q2'
        have hval' : a.eval y = .func (.func f) #[] vs'.toArray := by simpa [isPack, AV.isAgg, q3'] using q1'.symm
        rw [hval] at hval'
        simp only [Value.func.injEq, true_and, Array.mk.injEq] at hval'
        subst hval'
        exact rvs_all2 q4'
      · have e : xs.map a.eval = (xs.toList.map a.eval).toArray := by apply Array.ext'; simp
        simp only [execOp, ho, resolve, hval, Deferred.ofValue, Sem.run_bind, Sem.run_pure, Result.andThen_ok, invoke, Array.empty_append, run_callFunc hc]
        rw [e]
        simp
    · rename_i u hx
      rw [hx] at hv
      obtain ⟨cs, q1, q2⟩ := hv
      simp only [rc] at q2
      have hval : a.eval y = u := by simpa [isPack, AV.isAgg, q2.1] using q1.symm
      refine callr_wp (vs := xs.toList.map a.eval) hop0 (fun D' E' hs' => args_ok hs' xs.toList ts.toList ys h2) ⟨D, E, hs⟩ hwp hd hdn (fun l hl => ?_) hK
      subst hl
      have e : xs.map a.eval = (xs.toList.map a.eval).toArray := by apply Array.ext'; simp
      simp only [execOp, ho, resolve, hval, Deferred.ofValue, Sem.run_bind, Sem.run_pure, Result.andThen_ok, invoke, Array.append_empty, Array.empty_append]
      rw [e]
    · cases hwp
  | nilS neg x =>
    simp only [gStep] at hwp
    split at hwp
    case isFalse => exact gen hwp
    rename_i hu
    cases hwp with
    | any hdr hall =>
    unfold cOp at hop
    split at hop <;> try (first | (simp at hop; done) | ((repeat' split at hop) <;> simp at hop; done))
    rename_i bop t y z yt ho
    split at hop
    · simp at hop
    · simp at hop
    · rename_i e y' z' hut h1 h2
      split at hop
      · rename_i s
        split at hop
        · rename_i hopp
          simp only [Option.some.injEq, AOp.nilS.injEq] at hop
          obtain ⟨rfl, rfl⟩ := hop
          have ho' : o.op = .binOp (if (bop == .neq) = true then .neq else .eql) t y z yt := by
            rcases hopp with rfl | rfl <;> simpa using ho
          obtain ⟨D, E, hs⟩ := hsim
          have hund : ∃ sz, ev A y' = .slice sz [] ∨ ev A y' = .c0 sz := by
            generalize ev A y' = q at hu
            cases q <;> simp only [und, Bool.false_eq_true, List.isEmpty_iff] at hu
            · rename_i sz; exact ⟨sz, .inr rfl⟩
            · rename_i sz es; subst hu; exact ⟨sz, .inl rfl⟩
          obtain ⟨b, hrun⟩ := nil_any ho' hut h1 h2 hund hs
          refine ⟨about_wide, ?_⟩
          rw [sem_at hop0, hrun, Oper.uponIn_value]
          have hb := hall (if b then 0 else 1) (by cases b <;> simp)
          refine hK _ _ _ hb ⟨D, E, ?_⟩
          rw [hd]
          have e : ((if b = true then (0 : Nat) else 1) == 0) = b := by cases b <;> rfl
          rw [e]
          exact hs.putO hdn (mk_bool b)
        · cases hop
      · cases hop
    · split at hop <;> simp at hop
    · cases hop
  | app e esz bytes z s x =>
    simp only [gStep] at hwp
    unfold cOp at hop
    split at hop <;> try (first | (simp at hop; done) | ((repeat' split at hop) <;> simp at hop; done))
    rename_i args tys ho
    split at hop
    case h_2 => cases hop
    rename_i y q t t' ha ht
    split at hop
    case h_2 => cases hop
    rename_i e' s' x' k1 k2 k3
    split at hop
    case isFalse => split at hop <;> simp at hop
    rename_i hk
    simp only [Option.map_eq_some_iff, AOp.app.injEq] at hop
    obtain ⟨zz, hz1, rfl, rfl, rfl, rfl, rfl, rfl⟩ := hop
    obtain ⟨rfl, hk2, hk3⟩ := hk
    have ha' : args = #[y, q] := by apply Array.ext'; simpa using ha
    have ht' : tys = #[t, t] := by apply Array.ext'; simpa using ht
    subst ha' ht'
    rw [hz1] at hk3
    simp only [Option.map_some, Option.some.injEq] at hk3
    have hinfo : (c.P.info? e').isSome = true := by
      obtain ⟨ti, _, hti, _⟩ := zeroAV_ok hz1
      rw [hti]; rfl
    have grow : ∀ es ys, srcL A (c.P.cellsOf e') (ev A s') = some es → srcL A (c.P.cellsOf e') (ev A x') = some ys → ys ≠ [] → (∀ a w D E, SimW c A a w D E → ∀ ad l cp, a.eval y = .slice ad l cp → cp < l + ys.length) →
        WP c.P c.Y dr K (appG A dst (c.P.cellsOf e') (c.P.bytesOf e') zz es ys (aops rest)) → o.wpIn c.F 9 c.P a w Kw Q := fun es ys hse hsx hne hfull h => by
      simp only [appG] at h
      split at h
      case h_2 => cases h
      rename_i d
      split at h
      case h_2 => cases h
      rename_i hf
      split at h
      case isFalse => cases h
      rename_i hb
      cases h with
      | any hdr hall =>
        obtain ⟨D, E, hs⟩ := hsim
        obtain ⟨v, w', m, g1, g2, g3⟩ := app_new ho k1 k2 k3 hz1 hk3 hse hsx hb.1 hd (hdn d rfl) hf hne hs (hfull a w D E hs) hb.2
        refine ⟨about_wide, ?_⟩
        rw [sem_at hop0, g1, Oper.uponIn_value, hd]
        rw [hd] at g3
        exact hK _ _ _ (hall m g2) g3
    split at hwp
    · rename_i n l hs'
      split at hwp
      case h_2 => cases hwp
      rename_i sz ys hx'
      split at hwp
      case h_2 => cases hwp
      rename_i T sz' es hn
      split at hwp
      case isFalse => cases hwp
      rename_i hok
      obtain ⟨h1, h2, h3, h4, h5, h6, h7⟩ := hok
      subst h2 h3 h4
      have hd' := does_app (o := o) ho k1 k2 k3 hz1 hk3 hk2 hs' hn h1 hx' rfl h5 h6 h7 (by rw [hd]; exact hdn)
      exact hd'.wp hop0 hsim (fun a' w' hs => by rw [hd] at hs; exact hK _ a' w' hwp hs)
    · simp only [appO] at hwp
      split at hwp
      case h_2 => cases hwp
      rename_i es ys hse hsx
      split at hwp
      · rename_i hne
        subst hne
        exact ((does_app_none ho k1 hinfo k2 k3 hse hsx).does (by rw [hd]; exact hdn)).wp hop0 hsim (fun a' w' hs => by rw [hd] at hs; exact hK _ a' w' hwp hs)
      · rename_i hne
        have hpos : 0 < ys.length := List.length_pos_iff.2 hne
        split at hwp
        · rename_i z0 hsv
          refine grow es ys hse hsx hne (fun a w D E hs ad l cp hv => ?_) hwp
          have h0 := ev_ok hs k2
          rw [hsv] at h0
          obtain ⟨cs, q1, q2⟩ := h0
          simp only [rc] at q2
          have : a.eval y = .slice none 0 0 := by simpa [isPack, AV.isAgg, q2] using q1.symm
          rw [this] at hv
          simp only [Value.slice.injEq] at hv
          omega
        · rename_i z0 hsv
          refine grow es ys hse hsx hne (fun a w D E hs ad l cp hv => ?_) hwp
          have h0 := ev_ok hs k2
          rw [hsv] at h0
          obtain ⟨cs, q1, q2⟩ := h0
          simp only [rc] at q2
          obtain ⟨ad', q2⟩ := q2
          have : a.eval y = .slice ad' 0 0 := by simpa [isPack, AV.isAgg, q2] using q1.symm
          rw [this] at hv
          simp only [Value.slice.injEq] at hv
          omega
        · rename_i n p sz lo l hsv
          split at hwp
          case h_2 => cases hwp
          rename_i b hn
          split at hwp
          case h_2 => cases hwp
          rename_i fs hat
          split at hwp
          · rename_i hroom
            split at hwp
            case isFalse => cases hwp
            rename_i hok
            obtain ⟨rfl, hsh⟩ := hok
            exact (does_app_in ho k1 hinfo k2 k3 hsv hn hat hsx hroom hsh (by rw [hd]; exact hdn)).wp hop0 hsim (fun a' w' hs => by rw [hd] at hs; exact hK _ a' w' hwp hs)
          · rename_i hroom
            refine grow es ys hse hsx hne (fun a w D E hs ad l' cp hv => ?_) hwp
            have h0 := ev_ok hs k2
            rw [hsv] at h0
            obtain ⟨_, bb, cs, T, off, c1, c2, c3, _, _, _, _, _, _, _, _, _, _, r1, r2, r3⟩ := hs.view (fs := fs) h0 (by simp only [deref, hn, hat])
            rw [r3] at hv
            simp only [Value.slice.injEq] at hv
            omega
        · cases hwp
  | apz e esz bytes z s n =>
    simp only [gStep] at hwp
    unfold cOp at hop
    split at hop <;> try (first | (simp at hop; done) | ((repeat' split at hop) <;> simp at hop; done))
    rename_i args tys ho
    split at hop
    case h_2 => cases hop
    rename_i y q t t' ha ht
    split at hop
    case h_2 => cases hop
    rename_i e' s' x' k1 k2 k3
    split at hop
    case isTrue => simp at hop
    split at hop
    case isFalse => cases hop
    rename_i hk
    simp only [Option.map_eq_some_iff, AOp.apz.injEq] at hop
    obtain ⟨zz, hz1, rfl, rfl, rfl, rfl, rfl, rfl⟩ := hop
    obtain ⟨hint, hk2, hk3⟩ := hk
    have ha' : args = #[y, q] := by apply Array.ext'; simpa using ha
    have ht' : tys = #[t, t'] := by apply Array.ext'; simpa using ht
    subst ha' ht'
    rw [hz1] at hk3
    simp only [Option.map_some, Option.some.injEq] at hk3
    obtain ⟨kt, hkt⟩ : ∃ kt, c.P.underlying t' = some (.int kt) := by
      cases hu : c.P.underlying t' with
      | none => rw [hu] at hint; cases hint
      | some dsc => cases dsc <;> rw [hu] at hint <;> first | exact ⟨_, rfl⟩ | cases hint
    split at hwp
    case h_2 => cases hwp
    rename_i kx mi hx'
    simp only [apzO] at hwp
    split at hwp
    case h_2 => cases hwp
    rename_i es hse
    split at hwp
    case h_2 => cases hwp
    rename_i nn p sz lo l hsv
    split at hwp
    case h_2 => cases hwp
    rename_i bb hn
    split at hwp
    case h_2 => cases hwp
    rename_i fs hat
    split at hwp
    case isFalse => cases hwp
    rename_i hroom
    simp only [appG] at hwp
    split at hwp
    case h_2 => cases hwp
    rename_i d
    split at hwp
    case h_2 => cases hwp
    rename_i hf
    split at hwp
    case isFalse => cases hwp
    rename_i hb
    rw [List.length_replicate] at hb
    cases hwp with
    | any hdr hall =>
      obtain ⟨D, E, hs⟩ := hsim
      obtain ⟨v, w', m, g1, g2, g3⟩ := apz_new ho k1 k2 k3 hkt hx' rfl hroom.1 hk2 hz1 hk3 hse hb.1 hd (hdn d rfl) hf hs (fun ad l' cp hv => by
        have h0 := ev_ok hs k2
        rw [hsv] at h0
        have hsv' := hse
        obtain ⟨_, b1, cs, T, off, c1, c2, c3, _, _, _, _, _, _, _, _, _, _, r1, r2, r3⟩ := hs.view (fs := fs) h0 (by simp only [deref, hn, hat])
        rw [r3] at hv
        simp only [Value.slice.injEq] at hv
        have hel : es.length = l := by
          rw [hsv] at hse
          simp only [srcL, deref, hn, hat] at hse
          split at hse
          · simp only [Option.some.injEq] at hse
            rw [← hse, List.length_take, List.length_drop]
            omega
          · cases hse
        omega) hb.2
      refine ⟨about_wide, ?_⟩
      rw [sem_at hop0, g1, Oper.uponIn_value, hd]
      rw [hd] at g3
      have := hall m (by rw [List.length_replicate]; exact g2)
      rw [List.length_replicate] at this
      exact hK _ _ _ this g3
  | clr esz z x =>
    simp only [gStep] at hwp
    split at hwp
    case h_2 => cases hwp
    unfold cOp at hop
    split at hop <;> try (first | (simp at hop; done) | ((repeat' split at hop) <;> simp at hop; done))
    rename_i args tys ho
    split at hop
    case h_2 => cases hop
    rename_i y t ha ht
    split at hop
    case h_2 => cases hop
    rename_i e' x' k1 k2
    simp only [Option.map_eq_some_iff, AOp.clr.injEq] at hop
    obtain ⟨zz, hz1, rfl, rfl, rfl⟩ := hop
    have ha' : args = #[y] := by apply Array.ext'; simpa using ha
    have ht' : tys = #[t] := by apply Array.ext'; simpa using ht
    subst ha' ht'
    have nothing : WP c.P c.Y dr K (aops rest A) → (∀ a w D E, SimW c A a w D E → ∃ ad cp, a.eval y = .slice ad 0 cp) → o.wpIn c.F 9 c.P a w Kw Q := fun h hv => by
      obtain ⟨D, E, hs⟩ := hsim
      obtain ⟨ad, cp, hv⟩ := hv a w D E hs
      refine ⟨about_wide, ?_⟩
      have hrun : (execOp a.eval o).run c.P w = .ok (.value (.tuple #[])) w := by
        cases ad <;> simp [execOp, ho, resolve, invoke, builtin, Builtin.clear_, run_underlying k1, hv]
      rw [sem_at hop0, hrun, Oper.uponIn_value, hd]
      exact hK _ _ _ h ⟨D, E, hs⟩
    unfold clrO at hwp
    split at hwp
    · rename_i n p sz lo l hv
      split at hwp
      case h_2 => cases hwp
      rename_i b hn
      split at hwp
      case h_2 => cases hwp
      rename_i fs hat
      split at hwp
      case isFalse => cases hwp
      rename_i hok
      obtain ⟨rfl, hsh⟩ := hok
      exact (does_clr ho k1 k2 hz1 hv hn hat hsh hd).wp hop0 hsim (fun a' w' hs => hK _ a' w' hwp hs)
    · rename_i z0 hv
      refine nothing hwp fun a w D E hs => ?_
      have h0 := ev_ok hs k2
      rw [hv] at h0
      obtain ⟨cs, q1, q2⟩ := h0
      simp only [rc] at q2
      exact ⟨none, 0, by simpa [isPack, AV.isAgg, q2] using q1.symm⟩
    · rename_i z0 hv
      refine nothing hwp fun a w D E hs => ?_
      have h0 := ev_ok hs k2
      rw [hv] at h0
      obtain ⟨cs, q1, q2⟩ := h0
      simp only [rc] at q2
      obtain ⟨ad, q2⟩ := q2
      exact ⟨ad, 0, by simpa [isPack, AV.isAgg, q2] using q1.symm⟩
    · cases hwp
  | cpy esz x y =>
    simp only [gStep] at hwp
    unfold cOp at hop
    split at hop <;> try (first | (simp at hop; done) | ((repeat' split at hop) <;> simp at hop; done))
    rename_i args tys ho
    split at hop
    case h_2 => cases hop
    rename_i u v t t' ha ht
    split at hop
    case h_2 => cases hop
    rename_i e' x' y' k1 k2 k3
    split at hop
    case isFalse => cases hop
    rename_i hk
    simp only [Option.some.injEq, AOp.cpy.injEq] at hop
    obtain ⟨rfl, rfl, rfl⟩ := hop
    obtain ⟨rfl, hinfo⟩ := hk
    have ha' : args = #[u, v] := by apply Array.ext'; simpa using ha
    have ht' : tys = #[t, t] := by apply Array.ext'; simpa using ht
    subst ha' ht'
    unfold cpyO at hwp
    split at hwp
    · rename_i n p sz lo l ys hv hsx
      split at hwp
      case h_2 => cases hwp
      rename_i b hn
      split at hwp
      case h_2 => cases hwp
      rename_i fs hat
      split at hwp
      case isFalse => cases hwp
      rename_i hok
      obtain ⟨rfl, hsh⟩ := hok
      exact (does_cpy ho k1 hinfo k2 k3 hv hn hat hsx rfl hsh (by rw [hd]; exact hdn)).wp hop0 hsim (fun a' w' hs => by rw [hd] at hs; exact hK _ a' w' hwp hs)
    · cases hwp
  | _ => exact gen (by simpa only [gStep] using hwp)
theorem guard_bool {j t : Nat} {ops : Array Oper} {a : Act} {w : World} {b b' : Bool} (hs : Sim c A a w) (hg : o.guard = some (j, b)) (ht : (ops[j]?).bind (·.dst) = some t) (hv : A.t t = .bool b') : Region.wanted o (yielded ops a.tmps) = (b' == b) := by
  obtain ⟨D, E, hs⟩ := hs
  have h := hs.tm t
  rw [hv] at h
  have h := rv_bool h
  have hy : yielded ops a.tmps j = some b' := by
    unfold yielded
    rw [ht]
    simp only [Option.bind_some]
    simp only [Array.getD_eq_getD_getElem?] at h
    cases hh : a.tmps[t]? with
    | none => simp [hh, undef] at h
    | some v => simp only [hh, Option.getD_some] at h; subst h; rfl
  unfold Region.wanted
  rw [hg]
  simp only [hy]
  cases b <;> cases b' <;> rfl
theorem guard_undef {j t : Nat} {ops : Array Oper} {a : Act} {w : World} {b : Bool} (hs : Sim c A a w) (hg : o.guard = some (j, b)) (ht : (ops[j]?).bind (·.dst) = some t) (hv : A.t t = .undef) : Region.wanted o (yielded ops a.tmps) = false := by
  obtain ⟨D, E, hs⟩ := hs
  have h := hs.tm t
  rw [hv] at h
  simp only [rv] at h
  have hy : yielded ops a.tmps j = none := by
    unfold yielded
    rw [ht]
    simp only [Option.bind_some]
    simp only [Array.getD_eq_getD_getElem?] at h
    cases hh : a.tmps[t]? with
    | none => rfl
    | some v => simp only [hh, Option.getD_some] at h; subst h; rfl
  unfold Region.wanted
  rw [hg]
  simp only [hy]
  rfl
theorem Sim.putU {a : Act} {w : World} (h : Sim c A a w) {d : Option Nat} (hd : ∀ k, d = some k → k < c.n) : Sim c (A.putO d .undef) (a.put d undef) w := by
  obtain ⟨D, E, h⟩ := h
  exact ⟨D, E, h.putO hd (by simp [rv])⟩
/-- The operations of a region, in their order. -/
theorem gs_sound {dr : Bool} {K : AState → Prop} {ops : Array Oper} {Q : Exit → Act → World → Prop} (hQ : ∀ B a w, K B → Sim c B a w → Q .normal a w) : ∀ (l : List Oper) (gs : List G) (A : AState) (a : Act) (w : World), cGs c.P c.n ops l = some gs → WP c.P c.Y dr K (aops gs A) →
    Sim c A a w → wpListIn c.F 9 c.P ops Q l a w
  | [], gs, A, a, w, hc, hwp, hs => by
    simp only [cGs, Option.some.injEq] at hc
    subst hc
    simp only [aops] at hwp
    cases hwp with
    | done hk => exact hQ A a w hk hs
  | o :: l, gs, A, a, w, hc, hwp, hs => by
    simp only [cGs] at hc
    split at hc
    case h_2 => cases hc
    rename_i g gs' hg hgs
    simp only [Option.some.injEq] at hc
    subst hc
    obtain ⟨h1, h2, h3, h4⟩ := cG_spec hg
    have step : WP c.P c.Y dr K (gStep A g.dst g.op gs' (aops gs')) → o.wpIn c.F 9 c.P a w (wpListIn c.F 9 c.P ops Q l) Q := fun h =>
      g_sound (g := g) h1 h2.symm (by rw [h2]; exact h3) h hs (fun B a' w' hw hs' => gs_sound hQ l gs' B a' w' hgs hw hs')
    simp only [wpListIn]
    simp only [aops] at hwp
    rcases h4 with ⟨h5, h6⟩ | ⟨j, b, t, h5, h6, h7⟩
    · rw [h6] at hwp
      have hw : Region.wanted o (yielded ops a.tmps) = true := by simp [Region.wanted, h5]
      rw [hw, if_pos rfl]
      exact step hwp
    · rw [h7] at hwp
      simp only at hwp
      split at hwp
      · rename_i b' hb'
        rw [guard_bool hs h5 h6 hb']
        split at hwp
        · rename_i hbb
          subst hbb
          simp only [BEq.rfl, if_true]
          exact step hwp
        · rename_i hbb
          have : (b' == b) = false := by simpa using hbb
          rw [this]
          simp only [Bool.false_eq_true, if_false]
          exact ⟨fun f _ => fn_wide c f, gs_sound hQ l gs' _ _ w hgs hwp (by rw [h2]; exact hs.putU h3)⟩
      · rename_i hb'
        rw [guard_undef hs h5 h6 hb']
        simp only [Bool.false_eq_true, if_false]
        exact ⟨fun f _ => fn_wide c f, gs_sound hQ l gs' _ _ w hgs hwp (by rw [h2]; exact hs.putU h3)⟩
      · cases hwp
end
end Go.Abs

/-
  THE ABSTRACT LAYER, 13b: regions whose operations may run in any order that their edges allow. Over any program.
-/
namespace Go.Abs
open Go Go.RowKit
/-! ### what an operation looks at -/
def AOpd.sl : AOpd → List Nat
  | .t n => [n]
  | .c _ => []
def oSl : Option AOpd → List Nat
  | some x => x.sl
  | none => []
def sls (l : List AOpd) : List Nat := l.flatMap AOpd.sl
def AOp.rd : AOp → List Nat
  | .mv x => x.sl
  | .pick c a b => c.sl ++ (a.sl ++ b.sl)
  | .bin _ x y => x.sl ++ y.sl
  | .eqv _ _ x y => x.sl ++ y.sl
  | .nilS _ x => x.sl
  | .conv _ x => x.sl
  | .un _ x => x.sl
  | .ld _ x => x.sl
  | .fa _ _ x => x.sl
  | .fl _ _ _ x => x.sl
  | .ia _ _ x i => x.sl ++ i.sl
  | .is _ x i => x.sl ++ i.sl
  | .ix _ _ _ x i => x.sl ++ i.sl
  | .len x => x.sl
  | .lenT x => x.sl
  | .va _ _ x => x.sl
  | .sl _ x lo hi mx => x.sl ++ (oSl lo ++ (oSl hi ++ oSl mx))
  | .bld _ ps => sls (ps.map (·.2))
  | .bs _ ps => sls ps
  | .ext x _ => x.sl
  | .mk _ caps => sls caps
  | .alloc _ => []
  | .box x => x.sl
  | .st _ x v => x.sl ++ v.sl
  | .app _ _ _ _ s x => s.sl ++ x.sl
  | .apz _ _ _ _ s x => s.sl ++ x.sl
  | .cap x => x.sl
  | .bs0 _ => []
  | .clr _ _ x => x.sl
  | .cpy _ x y => x.sl ++ y.sl
  | .call _ args => sls args
  | .callv x args => x.sl ++ sls args
  | .xcall _ args => sls args
def G.rd (g : G) : List Nat := g.op.rd ++ (match g.guard with | some (t, _) => [t] | none => [])
/-- 0: looks at slots alone; 1: reads memory; 2: calls; 3: makes memory; 4: the others. -/
def AOp.cls : AOp → Nat
  | .mv _ | .pick .. | .bin .. | .eqv .. | .nilS .. | .conv .. | .un .. | .fl .. | .ix .. | .lenT _ | .bld .. | .ext .. | .mk .. => 0
  | .ld .. | .fa .. | .ia .. | .is .. | .len _ | .va .. | .bs .. | .sl .. | .cap _ | .bs0 _ => 1
  | .call .. | .callv .. => 2
  | .alloc _ | .box _ => 3
  | .st .. => 4
  | .app .. | .apz .. | .clr .. | .cpy .. | .xcall .. => 5
def clsOk (a b : Nat) : Bool := (decide (a ≤ 2) && decide (b ≤ 3)) || (a == 0 && b == 4)
/-- 'h', which comes behind 'g', may as well come ahead of it. -/
def indep (g h : G) : Bool := clsOk g.op.cls h.op.cls && (match g.dst with
    | some d => !h.rd.contains d && h.dst != some d
    | none => true) && (match h.dst with
    | some d => !g.rd.contains d
    | none => true)
def Agree (A A' : AState) (l : List Nat) : Prop := ∀ k ∈ l, A'.t k = A.t k
section
variable {A A' : AState}
theorem ev_same {x : AOpd} (h : Agree A A' x.sl) : ev A' x = ev A x := by
  cases x with
  | t n => exact h n (by simp [AOpd.sl])
  | c x => rfl
theorem Agree.l {l m : List Nat} (h : Agree A A' (l ++ m)) : Agree A A' l := fun k hk => h k (List.mem_append_left _ hk)
theorem Agree.r {l m : List Nat} (h : Agree A A' (l ++ m)) : Agree A A' m := fun k hk => h k (List.mem_append_right _ hk)
theorem evs_same : ∀ {l : List AOpd}, Agree A A' (sls l) → l.map (ev A') = l.map (ev A)
  | [], _ => rfl
  | x :: l, h => by
    simp only [sls, List.flatMap_cons] at h
    simp only [List.map_cons, ev_same h.l, evs_same (l := l) h.r]
theorem evo_same {x : Option AOpd} (h : Agree A A' (oSl x)) : x.map (ev A') = x.map (ev A) := by
  cases x with
  | none => rfl
  | some x => simp only [Option.map_some, ev_same (x := x) h]
theorem evp_same : ∀ {l : List (Nat × AOpd)}, Agree A A' (sls (l.map (·.2))) → (l.map fun p => (p.1, ev A' p.2)) = l.map fun p => (p.1, ev A p.2)
  | [], _ => rfl
  | x :: l, h => by
    simp only [sls, List.map_cons, List.flatMap_cons] at h
    simp only [List.map_cons, ev_same h.l, evp_same (l := l) h.r]
mutual
theorem fin_up (hu : Up A A') {bx : Bool} : ∀ {x v : AV}, fin bx A x = some v → fin bx A' x = some v
  | .ptr n p, v, h => by
    simp only [fin] at h ⊢
    cases bx <;> simp only [Bool.false_eq_true, if_false, if_true] at h ⊢
    · exact h
    · cases hd : deref A (.ptr n p) with
      | none => rw [hd] at h; cases h
      | some y => rw [hd] at h; rw [deref_up hu hd]; exact h
  | .own n k, v, h => by
    simp only [fin] at h ⊢
    cases ho : A.o n with
    | none => rw [ho] at h; cases h
    | some y => rw [ho] at h; rw [hu n y ho]; exact h
  | .view n p sz lo k, v, h => by
    simp only [fin] at h ⊢
    cases bx <;> simp only [Bool.false_eq_true, if_false, if_true] at h ⊢
    · exact h
    · cases hd : deref A (.ptr n p) with
      | none => rw [hd] at h; cases h
      | some y => rw [hd] at h; rw [deref_up hu hd]; exact h
  | .func f caps, v, h => by
    simp only [fin, Option.map_eq_some_iff] at h ⊢
    obtain ⟨a, h1, h2⟩ := h
    exact ⟨a, fins_up hu h1, h2⟩
  | .agg fs, v, h => by
    simp only [fin, Option.map_eq_some_iff] at h ⊢
    obtain ⟨a, h1, h2⟩ := h
    exact ⟨a, fins_up hu h1, h2⟩
  | .nils _, _, h | .c0 _, _, h | .tuple _, _, h | .undef, _, h | .top, _, h | .bool _, _, h | .int _ _, _, h | .str _, _, h | .nilp, _, h | .nilf, _, h | .nili, _, h | .raw _, _, h | .slice _ _, _, h | .ref _, _, h | .iface _ _, _, h => by simpa only [fin] using h
theorem fins_up (hu : Up A A') {bx : Bool} : ∀ {xs vs : List AV}, fins bx A xs = some vs → fins bx A' xs = some vs
  | [], vs, h => by simpa only [fins] using h
  | x :: xs, vs, h => by
    simp only [fins] at h ⊢
    cases h1 : fin bx A x with
    | none => rw [h1] at h; cases h
    | some y => cases h2 : fins bx A xs with
      | none => rw [h1, h2] at h; cases h
      | some ys => rw [h1, h2] at h; rw [fin_up hu h1, fins_up hu h2]; exact h
end
theorem pureOp_free {op : AOp} (hc : op.cls = 0) (h : Agree A A' op.rd) : pureOp A' op = pureOp A op := by
  cases op <;> simp only [AOp.cls] at hc <;> try (cases hc; done)
  all_goals simp only [AOp.rd] at h
  case mv x => simp only [pureOp, ev_same h]
  case pick c a b => simp only [pureOp, ev_same h.l, ev_same h.r.l, ev_same h.r.r]
  case bin _ x y => simp only [pureOp, ev_same h.l, ev_same h.r]
  case eqv _ _ x y => simp only [pureOp, ev_same h.l, ev_same h.r]
  case nilS x => simp only [pureOp, ev_same h]
  case conv x => simp only [pureOp, ev_same h]
  case un x => simp only [pureOp, ev_same h]
  case fl x => simp only [pureOp, ev_same h]
  case ix x i => simp only [pureOp, ev_same h.l, ev_same h.r]
  case lenT x => simp only [pureOp, ev_same h]
  case bld zs ps => simp only [pureOp, evp_same h]
  case ext x i => simp only [pureOp, ev_same h]
  case mk f caps => simp only [pureOp, evs_same h]
theorem pureOp_up {op : AOp} (hu : Up A A') (h : Agree A A' op.rd) {v : AV} (hv : pureOp A op = some v) : pureOp A' op = some v := by
  by_cases hc : op.cls = 0
  · rw [pureOp_free hc h]; exact hv
  cases op <;> try (exact absurd rfl hc)
  all_goals simp only [AOp.rd] at h
  case ld s x =>
    simp only [pureOp, ev_same h] at hv ⊢
    cases hd : deref A (ev A x) with
    | none => rw [hd] at hv; cases hv
    | some y => rw [hd] at hv; rw [deref_up hu hd]; exact hv
  case fa f off x =>
    simp only [pureOp, ev_same h] at hv ⊢
    generalize ev A x = z at *
    cases z <;> try (first | exact hv | (rename_i y; cases y <;> exact hv))
    rename_i n p
    cases hd : deref A (.ptr n p) with
    | none => simp only [hd] at hv; cases hv
    | some y => simp only [hd] at hv; simp only [deref_up hu hd]; exact hv
  case ia n esz x i =>
    simp only [pureOp, ev_same h.l, ev_same h.r] at hv ⊢
    generalize ev A x = z at *
    cases z <;> try (first | exact hv | (rename_i y; cases y <;> exact hv))
    rename_i n p
    cases hd : deref A (.ptr n p) with
    | none => simp only [hd] at hv; (repeat' split at hv) <;> cases hv
    | some y => simp only [hd] at hv; simp only [deref_up hu hd]; exact hv
  case is esz x i =>
    simp only [pureOp, ev_same h.l, ev_same h.r] at hv ⊢
    generalize ev A i = q at *
    cases q <;> try (exact hv)
    simp only at hv ⊢
    generalize ev A x = z at *
    cases z <;> try (first | exact hv | (rename_i y; cases y <;> exact hv))
    · rename_i n p
      cases hd : A.o n with
      | none => simp only [hd] at hv; cases hv
      | some y => simp only [hd] at hv; simp only [hu n y hd]; exact hv
    · rename_i n p sz lo k
      simp only at hv ⊢
      cases hd : deref A (.ptr n p) with
      | none => simp only [hd] at hv; cases hv
      | some y => simp only [hd] at hv; simp only [deref_up hu hd]; exact hv
  case len x =>
    simp only [pureOp, ev_same h] at hv ⊢
    generalize ev A x = z at *
    cases z <;> try (first | exact hv | (rename_i y; cases y <;> exact hv))
    rename_i n p
    cases hd : A.o n with
    | none => simp only [hd] at hv; cases hv
    | some y => simp only [hd] at hv; simp only [hu n y hd]; exact hv
  case cap x =>
    simp only [pureOp, ev_same h] at hv ⊢
    generalize ev A x = z at *
    cases z <;> try (first | exact hv | (rename_i y; cases y <;> exact hv))
    rename_i n p sz lo k
    simp only at hv ⊢
    cases hd : deref A (.ptr n p) with
    | none => simp only [hd] at hv; cases hv
    | some y => simp only [hd] at hv; simp only [deref_up hu hd]; exact hv
  case bs0 esz => exact hv
  case sl esz x lo hi mx =>
    simp only [pureOp, ev_same h.l, evo_same h.r.l, evo_same h.r.r.l, evo_same h.r.r.r] at hv ⊢
    generalize ev A x = z at *
    cases z <;> try (first | exact hv | (rename_i y; cases y <;> exact hv))
    rename_i n p sz l0 k
    simp only at hv ⊢
    cases hd : deref A (.ptr n p) with
    | none => simp only [hd] at hv; cases hv
    | some y => simp only [hd] at hv; simp only [deref_up hu hd]; exact hv
  case va n esz x =>
    simp only [pureOp, ev_same h] at hv ⊢
    generalize ev A x = z at *
    cases z <;> try (first | exact hv | (rename_i y; cases y <;> exact hv))
    rename_i n p
    cases hd : deref A (.ptr n p) with
    | none => simp only [hd] at hv; cases hv
    | some y => simp only [hd] at hv; simp only [deref_up hu hd]; exact hv
  case bs esz ps =>
    simp only [pureOp, evs_same h] at hv ⊢
    cases hd : fins false A (ps.map (ev A)) with
    | none => rw [hd] at hv; cases hv
    | some y => rw [hd] at hv; rw [fins_up hu hd]; exact hv
  all_goals (simp only [pureOp] at hv; cases hv)
end
/-! ### one operation as a step -/
def pass (A : AState) (g : G) : Prop := match g.guard with | none => True | some (t, b) => A.t t = .bool b
def nopass (A : AState) (g : G) : Prop := match g.guard with | none => False | some (t, b) => A.t t = .bool (!b) ∨ A.t t = .undef
inductive OpVal (P : Program) (A : AState) : AOp → AV → Prop where
  | pure {op : AOp} {v : AV} : pureOp A op = some v → OpVal P A op v
  | flat {f : FuncId} {args : List AOpd} {cargs : List AV} {r : AV} : fins true A (args.map (ev A)) = some cargs → Ctr P f cargs r → r.flat = true → OpVal P A (.call f args) r
  | lead {f : FuncId} {args : List AOpd} {cargs : List AV} {r : AV} : fins false A (args.map (ev A)) = some cargs → Ctr P f cargs r → OpVal P A (.call f args) r
  | vflat {x : AOpd} {f : FuncId} {caps : List AV} {args : List AOpd} {cargs : List AV} {r : AV} : ev A x = .func f caps → fins true A (args.map (ev A) ++ caps) = some cargs → Ctr P f cargs r → r.flat = true → OpVal P A (.callv x args) r
  | vlead {x : AOpd} {f : FuncId} {caps : List AV} {args : List AOpd} {cargs : List AV} {r : AV} : ev A x = .func f caps → fins false A (args.map (ev A) ++ caps) = some cargs → Ctr P f cargs r → OpVal P A (.callv x args) r
def OpMem (A : AState) (op : AOp) (x : AV) : Prop := op = .alloc x ∨ ∃ y, op = .box y ∧ (ev A y).isVal = true ∧ x = ev A y
def OpSt (A : AState) (op : AOp) (n : Nat) (z : AO) : Prop := ∃ s x v p b old, op = .st s x v ∧ ev A x = .ptr n p ∧ A.o n = some (.box b) ∧ b.at p = some old ∧ okSt s (ev A v) old ∧ z = .box (b.setAt p (ev A v))
/-- An operation whose outcome is one state. -/
def OpEff (A : AState) (dst : Option Nat) (op : AOp) (B : AState) : Prop := op.cls = 5 ∧ ∀ (rest : List G) (k : AState → Res), gStep A dst op rest k = k B
theorem und_pure {A : AState} {neg : Bool} {x : AOpd} {v : AV} (h : pureOp A (.nilS neg x) = some v) : und (ev A x) = false := by
  simp only [pureOp] at h
  generalize ev A x = q at *
  cases q <;> simp only [und] <;> simp only at h <;> try (cases h; done)
  rename_i sz es
  cases es with
  | nil => simp at h
  | cons => rfl
inductive Step (P : Program) (g : G) (A : AState) : AState → Prop where
  | skip : nopass A g → Step P g A (A.putO g.dst .undef)
  | val {v : AV} : pass A g → OpVal P A g.op v → Step P g A (A.putO g.dst v)
  | mem {d : Nat} {x : AV} : pass A g → g.dst = some d → OpMem A g.op x → A.o d = none → Step P g A ((A.setO d (.box x)).put d (.ptr d []))
  | st {n : Nat} {z : AO} : pass A g → g.dst = none → OpSt A g.op n z → Step P g A (A.setO n z)
  | eff {B : AState} : pass A g → OpEff A g.dst g.op B → Step P g A B
theorem bool_ne {b' b : Bool} (h : b' ≠ b) : b' = !b := by cases b <;> cases b' <;> simp_all
section
variable {P : Program} {Y : Value → List AV → List (Nat × AO) → Post → Prop} {K : AState → Prop}
theorem Step.of_gStep {A : AState} {g : G} {rest : List G} (hp : pass A g) (h : WP P Y true K (gStep A g.dst g.op rest (aops rest))) : ∃ B, Step P g A B ∧ WP P Y true K (aops rest B) := by
  have pure : WP P Y true K (bindR (pureOp A g.op) fun v => aops rest (A.putO g.dst v)) → ∃ B, Step P g A B ∧ WP P Y true K (aops rest B) := by
    intro h
    cases hv : pureOp A g.op with
    | none => rw [hv] at h; cases h
    | some v => rw [hv] at h; exact ⟨_, .val hp (.pure hv), h⟩
  obtain ⟨dst, op, gd⟩ := g
  cases op with
  | alloc z =>
    simp only [gStep] at h
    split at h
    case h_2 => cases h
    split at h
    case h_2 => cases h
    rename_i hd _ ho
    exact ⟨_, .mem hp rfl (.inl rfl) ho, h⟩
  | box x =>
    simp only [gStep] at h
    split at h
    case h_2 => cases h
    split at h
    case h_2 => cases h
    rename_i hd _ ho
    split at h
    case isFalse => cases h
    rename_i hv
    exact ⟨_, .mem hp rfl (.inr ⟨x, rfl, hv, rfl⟩) ho, h⟩
  | st s x v =>
    simp only [gStep] at h
    split at h
    case h_2 => cases h
    split at h
    case h_2 => cases h
    rename_i n p hx
    split at h
    case h_2 => cases h
    rename_i b hb
    split at h
    case h_2 => cases h
    rename_i old hat
    split at h
    case isFalse => cases h
    rename_i hok
    exact ⟨_, .st hp rfl ⟨s, x, v, p, b, old, rfl, hx, hb, hat, hok, rfl⟩, h⟩
  | nilS neg x =>
    simp only [gStep] at h
    split at h
    · cases h with | any hdr => cases hdr
    · exact pure h
  | app e esz bytes z s x =>
    simp only [gStep] at h
    split at h
    · rename_i n l hs'
      split at h
      case h_2 => cases h
      rename_i sz ys hx'
      split at h
      case h_2 => cases h
      rename_i T sz' es hn
      split at h
      case isFalse => cases h
      rename_i hok
      exact ⟨_, .eff hp ⟨rfl, fun rest k => by simp only [gStep, hs', hx', hn, if_pos hok]⟩, h⟩
    · rename_i hno
      have hg : ∀ (rest : List G) (k : AState → Res), gStep A dst (.app e esz bytes z s x) rest k = appO A dst esz bytes z (ev A s) (srcL A esz (ev A s)) (srcL A esz (ev A x)) k := fun rest k => by
        simp only [gStep]
      simp only [appO] at h hg
      split at h
      case h_2 => cases h
      rename_i es ys hse hsx
      simp only [hse, hsx] at hg
      have grow : ¬ WP P Y true K (appG A dst esz bytes z es ys (aops rest)) := fun h => by
        simp only [appG] at h
        split at h
        case h_2 => cases h
        split at h
        case h_2 => cases h
        split at h
        case isFalse => cases h
        cases h with | any hdr => cases hdr
      split at h
      · rename_i hne
        simp only [if_pos hne] at hg
        exact ⟨_, .eff hp ⟨rfl, hg⟩, h⟩
      · rename_i hne
        simp only [if_neg hne] at hg
        split at h
        · exact absurd h grow
        · exact absurd h grow
        · rename_i n p sz lo l hsv
          split at h
          case h_2 => cases h
          rename_i b hn
          split at h
          case h_2 => cases h
          rename_i fs hat
          split at h
          · rename_i hroom
            split at h
            case isFalse => cases h
            rename_i hok
            simp only [hsv, hn, hat, if_pos hroom, if_pos hok] at hg
            exact ⟨_, .eff hp ⟨rfl, hg⟩, h⟩
          · exact absurd h grow
        · cases h
  | xcall f args =>
    simp only [gStep] at h
    cases h with | ext r hdr => cases hdr
  | apz e esz bytes z s n =>
    exfalso
    simp only [gStep] at h
    split at h
    case h_2 => cases h
    simp only [apzO] at h
    split at h
    case h_2 => cases h
    split at h
    case h_2 => cases h
    split at h
    case h_2 => cases h
    split at h
    case h_2 => cases h
    split at h
    case isFalse => cases h
    simp only [appG] at h
    split at h
    case h_2 => cases h
    split at h
    case h_2 => cases h
    split at h
    case isFalse => cases h
    cases h with | any hdr => cases hdr
  | clr esz z x =>
    simp only [gStep] at h
    split at h
    case h_2 => cases h
    have hg : ∀ (rest : List G) (k : AState → Res), gStep A none (.clr esz z x) rest k = clrO A esz z k (ev A x) := fun rest k => rfl
    simp only [clrO] at h hg
    split at h
    · rename_i n p sz lo l hv
      split at h
      case h_2 => cases h
      rename_i b hn
      split at h
      case h_2 => cases h
      rename_i fs hat
      split at h
      case isFalse => cases h
      rename_i hok
      simp only [hv, hn, hat, if_pos hok] at hg
      exact ⟨_, .eff hp ⟨rfl, hg⟩, h⟩
    · rename_i z0 hv
      simp only [hv] at hg
      exact ⟨_, .eff hp ⟨rfl, hg⟩, h⟩
    · rename_i z0 hv
      simp only [hv] at hg
      exact ⟨_, .eff hp ⟨rfl, hg⟩, h⟩
    · cases h
  | cpy esz x y =>
    have hg : ∀ (rest : List G) (k : AState → Res), gStep A dst (.cpy esz x y) rest k = cpyO A dst esz k (ev A x) (srcL A esz (ev A y)) := fun rest k => rfl
    simp only [gStep] at h
    simp only [cpyO] at h hg
    split at h
    · rename_i n p sz lo l ys hv hsx
      split at h
      case h_2 => cases h
      rename_i b hn
      split at h
      case h_2 => cases h
      rename_i fs hat
      split at h
      case isFalse => cases h
      rename_i hok
      simp only [hv, hsx, hn, hat, if_pos hok] at hg
      exact ⟨_, .eff hp ⟨rfl, hg⟩, h⟩
    · cases h
  | call f args =>
    simp only [gStep] at h
    generalize h1 : fins true A (args.map (ev A)) = a1 at h
    generalize h2 : fins false A (args.map (ev A)) = a2 at h
    cases h with
    | flat r hc hf hw => exact ⟨_, .val hp (.flat h1 hc hf), hw⟩
    | lead r hc hw => exact ⟨_, .val hp (.lead h2 hc), hw⟩
    | free ns r hdr => cases hdr
    | obj bx ρ os cargs post hdr => cases hdr
  | callv x args =>
    simp only [gStep] at h
    split at h
    case h_3 => cases h
    case h_2 => cases h with | yld os cargs post hdr => cases hdr
    rename_i f caps hx
    generalize h1 : fins true A (args.map (ev A) ++ caps) = a1 at h
    generalize h2 : fins false A (args.map (ev A) ++ caps) = a2 at h
    cases h with
    | flat r hc hf hw => exact ⟨_, .val hp (.vflat hx h1 hc hf), hw⟩
    | lead r hc hw => exact ⟨_, .val hp (.vlead hx h2 hc), hw⟩
    | free ns r hdr => cases hdr
    | obj bx ρ os cargs post hdr => cases hdr
  | _ => exact pure (by simpa only [gStep] using h)
theorem Step.of_WP {A : AState} {g : G} {rest : List G} (h : WP P Y true K (aops (g :: rest) A)) : ∃ B, Step P g A B ∧ WP P Y true K (aops rest B) := by
  simp only [aops] at h
  split at h
  · rename_i hg
    exact Step.of_gStep (by simp only [pass, hg]) h
  · rename_i t b hg
    split at h
    · rename_i b' hb
      split at h
      · rename_i hbb
        subst hbb
        exact Step.of_gStep (by simp only [pass, hg]; exact hb) h
      · rename_i hbb
        refine ⟨_, .skip (by simp only [nopass, hg]; exact .inl (by rw [hb, bool_ne hbb])), h⟩
    · rename_i hb
      exact ⟨_, .skip (by simp only [nopass, hg]; exact .inr hb), h⟩
    · cases h
theorem aops_pass {A : AState} {g : G} {rest : List G} (hp : pass A g) : aops (g :: rest) A = gStep A g.dst g.op rest (aops rest) := by
  simp only [aops]
  cases hg : g.guard with
  | none => rfl
  | some tb =>
    obtain ⟨t, b⟩ := tb
    simp only [pass, hg] at hp
    simp only [hp, if_true]
theorem Step.to_WP {A B : AState} {g : G} {rest : List G} (h : Step P g A B) (hw : WP P Y true K (aops rest B)) : WP P Y true K (aops (g :: rest) A) := by
  cases h with
  | skip hn =>
    simp only [aops]
    cases hg : g.guard with
    | none => simp only [nopass, hg] at hn
    | some tb =>
      obtain ⟨t, b⟩ := tb
      simp only [nopass, hg] at hn
      rcases hn with hn | hn
      · simp only [hn]; rw [if_neg (by cases b <;> simp)]; exact hw
      · simp only [hn]; exact hw
  | val hp hv =>
    rw [aops_pass hp]
    obtain ⟨dst, op, gd⟩ := g
    cases hv with
    | pure hv =>
      have hv' : pureOp A op = some _ := hv
      cases op <;> try (simp only [gStep, hv', bindR] <;> first | exact hw | (simp only [pureOp] at hv'; cases hv'); done)
      all_goals first
        | (simp only [pureOp] at hv'; cases hv'; done)
        | (simp only [gStep, und_pure hv', Bool.false_eq_true, if_false, hv', bindR]; exact hw)
    | flat h1 h2 h3 => simp only [gStep, h1]; exact .flat _ h2 h3 hw
    | lead h1 h2 => simp only [gStep, h1]; exact .lead _ h2 hw
    | vflat h0 h1 h2 h3 => simp only [gStep, h0, h1]; exact .flat _ h2 h3 hw
    | vlead h0 h1 h2 => simp only [gStep, h0, h1]; exact .lead _ h2 hw
  | mem hp hd hm ho =>
    rw [aops_pass hp]
    obtain ⟨dst, op, gd⟩ := g
    simp only at hd
    subst hd
    rcases hm with hm | ⟨y, hm, hv, rfl⟩ <;> simp only at hm <;> subst hm
    · simp only [gStep, ho]; exact hw
    · simp only [gStep, ho, hv, if_true]; exact hw
  | st hp hd hm =>
    rw [aops_pass hp]
    obtain ⟨dst, op, gd⟩ := g
    simp only at hd
    subst hd
    obtain ⟨s, x, v, p, b, old, h1, h2, h3, h4, h5, rfl⟩ := hm
    simp only at h1
    subst h1
    simp only [gStep, h2, h3, h4, if_pos h5]
    exact hw
  | eff hp hm =>
    rw [aops_pass hp, hm.2]
    exact hw
/-! ### two steps changed round -/
theorem OpVal.up {A A' : AState} {op : AOp} {v : AV} (h : OpVal P A op v) (hu : Up A A') (ha : Agree A A' op.rd) : OpVal P A' op v := by
  cases h with
  | pure h => exact .pure (pureOp_up hu ha h)
  | flat h1 h2 h3 => exact .flat (by rw [evs_same ha]; exact fins_up hu h1) h2 h3
  | lead h1 h2 => exact .lead (by rw [evs_same ha]; exact fins_up hu h1) h2
  | vflat h0 h1 h2 h3 => simp only [AOp.rd] at ha; exact .vflat (by rw [ev_same ha.l]; exact h0) (by rw [evs_same ha.r]; exact fins_up hu h1) h2 h3
  | vlead h0 h1 h2 => simp only [AOp.rd] at ha; exact .vlead (by rw [ev_same ha.l]; exact h0) (by rw [evs_same ha.r]; exact fins_up hu h1) h2
theorem OpVal.free {A A' : AState} {op : AOp} {v : AV} (h : OpVal P A op v) (hc : op.cls = 0) (ha : Agree A A' op.rd) : OpVal P A' op v := by
  cases h with
  | pure h => exact .pure (by rw [pureOp_free hc ha]; exact h)
  | _ => simp [AOp.cls] at hc
theorem pass_same {A A' : AState} {g : G} (ha : Agree A A' g.rd) (h : pass A g) : pass A' g := by
  unfold pass at *
  cases hg : g.guard with
  | none => trivial
  | some tb => simp only [hg] at h ⊢; rw [ha tb.1 (by simp [G.rd, hg])]; exact h
theorem nopass_same {A A' : AState} {g : G} (ha : Agree A A' g.rd) (h : nopass A g) : nopass A' g := by
  unfold nopass at *
  cases hg : g.guard with
  | none => simp only [hg] at h
  | some tb => simp only [hg] at h ⊢; rw [ha tb.1 (by simp [G.rd, hg])]; exact h
theorem G.op_agree {A A' : AState} {g : G} (ha : Agree A A' g.rd) : Agree A A' g.op.rd := fun k hk => ha k (List.mem_append_left _ hk)
/-- A step that only puts a value into a slot, told apart from the state it starts in. -/
def SV (P : Program) (g : G) (A : AState) (v : AV) : Prop := (nopass A g ∧ v = .undef) ∨ (pass A g ∧ OpVal P A g.op v)
theorem SV.step {A : AState} {g : G} {v : AV} (h : SV P g A v) : Step P g A (A.putO g.dst v) := by
  rcases h with ⟨h, rfl⟩ | ⟨h, k⟩
  · exact .skip h
  · exact .val h k
theorem SV.up {A A' : AState} {g : G} {v : AV} (h : SV P g A v) (hu : Up A A') (ha : Agree A A' g.rd) : SV P g A' v := by
  rcases h with ⟨h, rfl⟩ | ⟨h, k⟩
  · exact .inl ⟨nopass_same ha h, rfl⟩
  · exact .inr ⟨pass_same ha h, k.up hu (G.op_agree ha)⟩
theorem SV.free {A A' : AState} {g : G} {v : AV} (h : SV P g A v) (hc : g.op.cls = 0) (ha : Agree A A' g.rd) : SV P g A' v := by
  rcases h with ⟨h, rfl⟩ | ⟨h, k⟩
  · exact .inl ⟨nopass_same ha h, rfl⟩
  · exact .inr ⟨pass_same ha h, k.free hc (G.op_agree ha)⟩
theorem Step.sv {A B : AState} {g : G} (h : Step P g A B) (hc : g.op.cls ≤ 2) : ∃ v, SV P g A v ∧ B = A.putO g.dst v := by
  cases h with
  | skip h => exact ⟨_, .inl ⟨h, rfl⟩, rfl⟩
  | val h k => exact ⟨_, .inr ⟨h, k⟩, rfl⟩
  | mem h1 h2 h3 h4 => rcases h3 with h3 | ⟨y, h3, _⟩ <;> (rw [h3] at hc; simp [AOp.cls] at hc)
  | st h1 h2 h3 => obtain ⟨s, x, v, p, b, old, h4, _⟩ := h3; rw [h4] at hc; simp [AOp.cls] at hc
  | eff h1 h3 => rw [h3.1] at hc; omega
theorem put_putO {A : AState} {a b : Option Nat} {v u : AV} (h : ∀ d, a = some d → b ≠ some d) : (A.putO a v).putO b u = (A.putO b u).putO a v := by
  cases a with
  | none => rfl
  | some d => cases b with
    | none => rfl
    | some e =>
      have hne : d ≠ e := fun he => h d rfl (by rw [he])
      simp only [AState.putO, AState.put, AState.mk.injEq, and_true]
      funext k
      by_cases h1 : k = e <;> by_cases h2 : k = d <;> simp_all
theorem putO_o {A : AState} {d : Option Nat} {v : AV} : (A.putO d v).o = A.o := by cases d <;> rfl
theorem putO_agree {A : AState} {d : Option Nat} {v : AV} {l : List Nat} (h : ∀ k, d = some k → k ∉ l) : Agree A (A.putO d v) l := by
  cases d with
  | none => exact fun _ _ => rfl
  | some e =>
    intro k hk
    have : k ≠ e := fun he => h e rfl (he ▸ hk)
    simp [AState.putO, AState.put, this]
theorem Agree.symm {A A' : AState} {l : List Nat} (h : Agree A A' l) : Agree A' A l := fun k hk => (h k hk).symm
theorem OpMem.same {A A' : AState} {op : AOp} {x : AV} (h : OpMem A op x) (ha : Agree A A' op.rd) : OpMem A' op x := by
  rcases h with h | ⟨y, h1, h2, h3⟩
  · exact .inl h
  · subst h1
    have := ev_same (x := y) ha
    exact .inr ⟨y, rfl, by rw [this]; exact h2, by rw [this]; exact h3⟩
theorem OpSt.same {A A' : AState} {op : AOp} {n : Nat} {z : AO} (h : OpSt A op n z) (ho : A'.o = A.o) (ha : Agree A A' op.rd) : OpSt A' op n z := by
  obtain ⟨s, x, v, p, b, old, h1, h2, h3, h4, h5, h6⟩ := h
  subst h1
  simp only [AOp.rd] at ha
  have e1 := ev_same ha.l
  have e2 := ev_same ha.r
  exact ⟨s, x, v, p, b, old, rfl, by rw [e1]; exact h2, by rw [ho]; exact h3, h4, by rw [e2]; exact h5, by rw [e2]; exact h6⟩
theorem indep_spec {g h : G} (hi : indep g h = true) : clsOk g.op.cls h.op.cls = true ∧ (∀ d, g.dst = some d → d ∉ h.rd) ∧ (∀ d, g.dst = some d → h.dst ≠ some d) ∧ (∀ d, h.dst = some d → d ∉ g.rd) := by
  simp only [indep, Bool.and_eq_true] at hi
  obtain ⟨⟨h1, h2⟩, h3⟩ := hi
  refine ⟨h1, fun d hd => ?_, fun d hd => ?_, fun d hd => ?_⟩
  · rw [hd] at h2; simp at h2; exact h2.1
  · rw [hd] at h2; simp at h2; exact h2.2
  · rw [hd] at h3; simpa using h3
theorem Step.swap {A B C : AState} {g h : G} (hi : indep g h = true) (h1 : Step P g A B) (h2 : Step P h B C) : ∃ B', Step P h A B' ∧ Step P g B' C := by
  obtain ⟨hc, i1, i2, i3⟩ := indep_spec hi
  simp only [clsOk, Bool.or_eq_true, Bool.and_eq_true, decide_eq_true_eq, beq_iff_eq] at hc
  have hg2 : g.op.cls ≤ 2 := by rcases hc with hc | hc <;> omega
  obtain ⟨v, hv, rfl⟩ := h1.sv hg2
  have ag : Agree (A.putO g.dst v) A h.rd := (putO_agree i1).symm
  have up : Up (A.putO g.dst v) A := fun n x hx => by rwa [putO_o] at hx
  cases h2 with
  | skip hn =>
    exact ⟨_, .skip (nopass_same ag hn), by
      rw [put_putO i2]; exact (hv.up (by intro n x hx; rwa [putO_o]) (putO_agree i3)).step⟩
  | val hp hu =>
    exact ⟨_, .val (pass_same ag hp) (hu.up up (G.op_agree ag)), by
      rw [put_putO i2]; exact (hv.up (by intro n x hx; rwa [putO_o]) (putO_agree i3)).step⟩
  | mem hp hd hm ho =>
    rename_i d x
    rw [putO_o] at ho
    refine ⟨_, .mem (pass_same ag hp) hd (hm.same (G.op_agree ag)) ho, ?_⟩
    have e : ((A.putO g.dst v).setO d (.box x)).put d (.ptr d []) = ((A.setO d (.box x)).put d (.ptr d [])).putO g.dst v := by
      cases hgd : g.dst with
      | none => rfl
      | some e =>
        have hne : e ≠ d := fun he => i2 e hgd (by rw [hd, he])
        simp only [AState.putO, AState.put, AState.setO, AState.mk.injEq, and_true]
        funext k
        by_cases h1 : k = e <;> by_cases h2 : k = d <;> simp_all
    rw [e]
    refine (hv.up (fun n y hy => ?_) (fun k hk => ?_)).step
    · have : n ≠ d := fun he => by rw [he, ho] at hy; cases hy
      simp only [AState.put, AState.setO, this, if_false]; exact hy
    · have : k ≠ d := fun he => i3 d hd (he ▸ hk)
      simp only [AState.put, AState.setO, this, if_false]
  | st hp hd hm =>
    rename_i n z
    have hc0 : g.op.cls = 0 := by
      obtain ⟨s, x, v, p, b, old, h4, _⟩ := hm
      rcases hc with hc | hc
      · rw [h4] at hc; exact absurd hc.2 (by simp [AOp.cls])
      · exact hc.1
    refine ⟨_, .st (pass_same ag hp) hd (hm.same putO_o.symm (G.op_agree ag)), ?_⟩
    have e : (A.putO g.dst v).setO n z = (A.setO n z).putO g.dst v := by cases g.dst <;> rfl
    rw [e]
    exact (SV.free (A' := A.setO n z) hv hc0 (fun _ _ => rfl)).step
  | eff hp hm =>
    exfalso
    rw [hm.1] at hc
    omega
theorem WP.swap {A : AState} {g h : G} {rest : List G} (hi : indep g h = true) (hw : WP P Y true K (aops (g :: h :: rest) A)) : WP P Y true K (aops (h :: g :: rest) A) := by
  obtain ⟨B, h1, h2⟩ := Step.of_WP hw
  obtain ⟨C, h3, h4⟩ := Step.of_WP h2
  obtain ⟨B', h5, h6⟩ := Step.swap hi h1 h3
  exact h5.to_WP (h6.to_WP h4)
theorem WP.bring {g : G} : ∀ {l : List G} {r : List G} {A : AState}, (∀ j ∈ l, indep j g = true) → WP P Y true K (aops (l ++ g :: r) A) → WP P Y true K (aops (g :: (l ++ r)) A)
  | [], r, A, _, h => h
  | j :: l, r, A, hi, h => by
    obtain ⟨B, h1, h2⟩ := Step.of_WP (g := j) (rest := l ++ g :: r) h
    have h3 := WP.bring (l := l) (r := r) (fun k hk => hi k (by simp [hk])) h2
    exact WP.swap (hi j (by simp)) (h1.to_WP h3)
end
end Go.Abs

/-
  THE ABSTRACT LAYER, 13c: a region in any order that its edges allow does what it does in its written order. Over any program.
-/
namespace Go.Abs
open Go Go.RowKit
def onOf (o : Oper) : List Nat := (o.after.toList.filter fun e => Region.binds .any e).map (·.on)
/-- What hangs on these, as bits. -/
def upBits (cl : List Nat) : List Nat → Nat
  | [] => 0
  | k :: ks => (2 ^ k ||| cl.getD k 0) ||| upBits cl ks
/-- The check: edges lead back; what an operation is said to hang on it hangs on; and of two operations of which none hangs on the other, the order does not matter. -/
def drawOk (on : List (List Nat)) (gs : List G) (cl : List Nat) : Bool :=
  (List.range gs.length).all fun i => (on.getD i []).all (fun k => decide (k < i)) && Nat.beq (cl.getD i 0) (upBits cl (on.getD i [])) &&
    (List.range i).all fun j => (cl.getD i 0).testBit j || indep (gs.getD j default) (gs.getD i default)
theorem upBits_spec {cl : List Nat} {j : Nat} : ∀ {l : List Nat}, (upBits cl l).testBit j = true → j ∈ l ∨ ∃ k ∈ l, (cl.getD k 0).testBit j = true
  | [], h => by simp [upBits] at h
  | k :: ks, h => by
    simp only [upBits, Nat.testBit_or, Bool.or_eq_true, Nat.testBit_two_pow, decide_eq_true_eq] at h
    rcases h with (h | h) | h
    · exact .inl (by simp [h])
    · exact .inr ⟨k, by simp, h⟩
    · rcases upBits_spec h with h | ⟨m, h1, h2⟩
      · exact .inl (by simp [h])
      · exact .inr ⟨m, by simp [h1], h2⟩
structure DrawOk (l : List Oper) (gs : List G) : Prop where
  back : ∀ i o, l[i]? = some o → ∀ k ∈ onOf o, k < i
  ind : ∀ (S : Nat → Prop), (∀ i o, l[i]? = some o → S i → ∀ k ∈ onOf o, S k) → ∀ i o g j, l[i]? = some o → gs[i]? = some g → (∀ k ∈ onOf o, S k) → j < i → ¬ S j → indep (gs.getD j default) g = true
theorem drawOk_spec {l : List Oper} {gs : List G} {cl : List Nat} (hlen : gs.length = l.length) (h : drawOk (l.map onOf) gs cl = true) : DrawOk l gs := by
  simp only [drawOk, List.all_eq_true, List.mem_range] at h
  have at' : ∀ i o, l[i]? = some o → ∃ g, gs[i]? = some g ∧ (∀ k ∈ onOf o, k < i) ∧ (∀ j, (cl.getD i 0).testBit j = true → j ∈ onOf o ∨ ∃ k ∈ onOf o, (cl.getD k 0).testBit j = true) ∧ ∀ j, j < i → (cl.getD i 0).testBit j = true ∨ indep (gs.getD j default) g = true := by
    intro i o ho
    have hi : i < l.length := (List.getElem?_eq_some_iff.1 ho).1
    have h1 := h i (by omega)
    have hon : (l.map onOf).getD i [] = onOf o := by simp [List.getD_eq_getElem?_getD, ho]
    have hgi : i < gs.length := by omega
    have hg : gs[i]? = some gs[i] := List.getElem?_eq_getElem hgi
    have hgd : gs.getD i default = gs[i] := by simp [List.getD_eq_getElem?_getD, hg]
    rw [hon, hgd] at h1
    simp only [Bool.and_eq_true, List.all_eq_true, decide_eq_true_eq, Bool.or_eq_true, List.mem_range] at h1
    have hb := Nat.eq_of_beq_eq_true h1.1.2
    exact ⟨_, hg, h1.1.1, fun j hj => upBits_spec (by rw [← hb]; exact hj), h1.2⟩
  refine ⟨fun i o ho => (at' i o ho).choose_spec.2.1, ?_⟩
  intro S hS i o g j ho hg hon hj hnj
  have key : ∀ n i o, i ≤ n → l[i]? = some o → (∀ k ∈ onOf o, S k) → ∀ j, (cl.getD i 0).testBit j = true → S j := by
    intro n
    induction n with
    | zero =>
      intro i o hi ho hon j hj
      obtain ⟨g, _, h1, h2, _⟩ := at' i o ho
      rcases h2 j hj with h | ⟨k, hk, _⟩
      · exact hon j h
      · have := h1 k hk; omega
    | succ n ih =>
      intro i o hi ho hon j hj
      obtain ⟨g, _, h1, h2, _⟩ := at' i o ho
      rcases h2 j hj with h | ⟨k, hk, hjk⟩
      · exact hon j h
      · have hki := h1 k hk
        have hkl : k < l.length := Nat.lt_trans hki (List.getElem?_eq_some_iff.1 ho).1
        obtain ⟨ok, hok⟩ : ∃ ok, l[k]? = some ok := ⟨l[k], List.getElem?_eq_getElem hkl⟩
        exact ih k ok (by omega) hok (hS k ok hok (hon k hk)) j hjk
  obtain ⟨g', hg', _, _, h3⟩ := at' i o ho
  rw [hg, Option.some.injEq] at hg'
  subst hg'
  rcases h3 j hj with h | h
  · exact absurd (key i i o (Nat.le_refl _) ho hon j h) hnj
  · exact h
/-! ### what is still to be run -/
def remI (listed : Array Bool) (n : Nat) : List Nat := (List.range n).filter fun i => !listed.getD i true
def remG (gs : List G) (listed : Array Bool) (n : Nat) : List G := (remI listed n).map fun i => gs.getD i default
theorem range_split {i n : Nat} (h : i < n) : List.range n = List.range i ++ i :: (List.range (n - (i + 1))).map (i + 1 + ·) := by
  conv => lhs; rw [show n = (i + 1) + (n - (i + 1)) by omega, List.range_add]
  rw [List.range_succ]
  simp
theorem remI_split {listed : Array Bool} {i n : Nat} (h : i < n) (hs : listed.size = n) (hu : listed.getD i true = false) : ∃ l1 l2, remI listed n = l1 ++ i :: l2 ∧ remI (listed.setIfInBounds i true) n = l1 ++ l2 ∧ ∀ j ∈ l1, j < i ∧ listed.getD j true = false := by
  have same : ∀ j, j ≠ i → (listed.setIfInBounds i true).getD j true = listed.getD j true := fun j hj => getD_set_ne true (Ne.symm hj)
  have hit : (listed.setIfInBounds i true).getD i true = true := by simp [hs, h]
  refine ⟨(List.range i).filter fun j => !listed.getD j true, ((List.range (n - (i + 1))).map (i + 1 + ·)).filter fun j => !listed.getD j true, ?_, ?_, ?_⟩
  · simp only [remI]
    rw [range_split h, List.filter_append, List.filter_cons]
    simp only [hu, Bool.not_false, if_true]
  · simp only [remI]
    rw [range_split h, List.filter_append, List.filter_cons]
    simp only [hit, Bool.not_true, Bool.false_eq_true, if_false]
    congr 1
    · refine List.filter_congr fun j hj => ?_
      rw [same j (by have := List.mem_range.1 hj; omega)]
    · refine List.filter_congr fun j hj => ?_
      obtain ⟨k, _, rfl⟩ := List.mem_map.1 hj
      rw [same _ (by omega)]
  · intro j hj
    simp only [List.mem_filter, List.mem_range, Bool.not_eq_true'] at hj
    exact hj
theorem remI_all {n : Nat} : remI (Array.replicate n false) n = List.range n := by
  simp only [remI]
  refine List.filter_eq_self.2 fun i hi => ?_
  have := List.mem_range.1 hi
  simp [this]
theorem map_getD_range (gs : List G) : ((List.range gs.length).map fun i => gs.getD i default) = gs := by
  apply List.ext_getElem
  · simp
  · intro i h1 h2
    simp [List.getD_eq_getElem?_getD, h2]
section
variable {c : Ctx}
theorem cGs_at {P : Program} {n : Nat} {ops : Array Oper} : ∀ {l : List Oper} {gs : List G}, cGs P n ops l = some gs → gs.length = l.length ∧ ∀ (i : Nat) (o : Oper), l[i]? = some o → ∃ g, gs[i]? = some g ∧ cG P n ops o = some g
  | [], gs, h => by simp only [cGs, Option.some.injEq] at h; subst h; exact ⟨rfl, fun i o ho => by simp at ho⟩
  | o :: l, gs, h => by
    simp only [cGs] at h
    split at h
    case h_2 => cases h
    rename_i g gs' hg hgs
    simp only [Option.some.injEq] at h
    subst h
    obtain ⟨h1, h2⟩ := cGs_at (l := l) hgs
    refine ⟨by simp [h1], fun i o' ho => ?_⟩
    cases i with
    | zero => simp only [List.getElem?_cons_zero, Option.some.injEq] at ho; subst ho; exact ⟨g, rfl, hg⟩
    | succ i => simpa using h2 i o' (by simpa using ho)
/-- One operation, guard and all. -/
theorem gGuard_sound {K : AState → Prop} {ops : Array Oper} {Q : Exit → Act → World → Prop} {o : Oper} {g : G} {rest : List G} {A : AState} {a : Act} {w : World} {Kw : Act → World → Prop} (hg : cG c.P c.n ops o = some g) (hwp : WP c.P c.Y true K (aops (g :: rest) A)) (hs : Sim c A a w)
    (hK : ∀ B a' w', WP c.P c.Y true K (aops rest B) → Sim c B a' w' → Kw a' w') : if Region.wanted o (yielded ops a.tmps) then o.wpIn c.F 9 c.P a w Kw Q else (∀ f, o.about c.P w a.eval = some f → c.F.fn f) ∧ Kw (a.put o.dst undef) w := by
  obtain ⟨h1, h2, h3, h4⟩ := cG_spec hg
  have step : WP c.P c.Y true K (gStep A g.dst g.op rest (aops rest)) → o.wpIn c.F 9 c.P a w Kw Q := fun h =>
    g_sound (g := g) h1 h2.symm (by rw [h2]; exact h3) h hs (fun B a' w' hw hs' => hK B a' w' hw hs')
  simp only [aops] at hwp
  rcases h4 with ⟨h5, h6⟩ | ⟨j, b, t, h5, h6, h7⟩
  · rw [h6] at hwp
    have hw : Region.wanted o (yielded ops a.tmps) = true := by simp [Region.wanted, h5]
    rw [hw, if_pos rfl]
    exact step hwp
  · rw [h7] at hwp
    simp only at hwp
    split at hwp
    · rename_i b' hb'
      rw [guard_bool hs h5 h6 hb']
      split at hwp
      · rename_i hbb
        subst hbb
        simp only [BEq.rfl, if_true]
        exact step hwp
      · rename_i hbb
        have : (b' == b) = false := by simpa using hbb
        rw [this]
        simp only [Bool.false_eq_true, if_false]
        exact ⟨fun f _ => fn_wide c f, hK _ _ _ hwp (by rw [h2]; exact hs.putU h3)⟩
    · rename_i hb'
      rw [guard_undef hs h5 h6 hb']
      simp only [Bool.false_eq_true, if_false]
      exact ⟨fun f _ => fn_wide c f, hK _ _ _ hwp (by rw [h2]; exact hs.putU h3)⟩
    · cases hwp
theorem any_sound {K : AState → Prop} {ops : Array Oper} {gs : List G} {Q : Exit → Act → World → Prop} (hQ : ∀ B a w, K B → Sim c B a w → Q .normal a w) (hgs : cGs c.P c.n ops ops.toList = some gs) (hd : DrawOk ops.toList gs) :
    ∀ (fuel : Nat) (listed : Array Bool) (A : AState) (a : Act) (w : World), listed.size = ops.size → (∀ i o, ops.toList[i]? = some o → listed.getD i false = true → ∀ k ∈ onOf o, listed.getD k false = true) → (remI listed ops.size).length ≤ fuel →
      WP c.P c.Y true K (aops (remG gs listed ops.size) A) → Sim c A a w → wpAnyIn c.F 9 c.P .any ops Q fuel listed a w := by
  obtain ⟨hlen, hat⟩ := cGs_at hgs
  have onOf_mem : ∀ (o : Oper) (e : Edge), e ∈ o.after → Region.binds .any e = true → e.on ∈ onOf o := fun o e he hb => by
    simp only [onOf, List.mem_map, List.mem_filter]
    exact ⟨e, ⟨by simpa using he, hb⟩, rfl⟩
  have of_onOf : ∀ (o : Oper) (k : Nat), k ∈ onOf o → ∃ e ∈ o.after, Region.binds .any e = true ∧ e.on = k := fun o k hk => by
    simp only [onOf, List.mem_map, List.mem_filter] at hk
    obtain ⟨e, ⟨h1, h2⟩, h3⟩ := hk
    exact ⟨e, by simpa using h1, h2, h3⟩
  have last : ∀ (listed : Array Bool) (A : AState) (a : Act) (w : World), listed.size = ops.size → Region.ready .any ops listed = [] → WP c.P c.Y true K (aops (remG gs listed ops.size) A) → Sim c A a w → Q .normal a w := by
    intro listed A a w hsz hr hwp hs
    have hnone : remI listed ops.size = [] := by
      have all : ∀ n, ∀ i, i < n → i < ops.size → listed.getD i true = true := by
        intro n
        induction n with
        | zero => intro i hi; omega
        | succ n ih =>
          intro i hi his
          cases hb : listed.getD i true with
          | true => rfl
          | false =>
            exfalso
            have ho : ops[i]? = some ops[i] := Array.getElem?_eq_getElem his
            have : i ∈ Region.ready .any ops listed := mem_ready.2 ⟨hb, ops[i], ho, fun e he hbd => by
              have hlt := hd.back i ops[i] (by simp) e.on (onOf_mem _ e he hbd)
              have h1 := ih e.on (by omega) (by omega)
              have h2 : e.on < listed.size := by omega
              simpa [Array.getD_eq_getD_getElem?, h2] using h1⟩
            rw [hr] at this
            cases this
      simp only [remI]
      refine List.filter_eq_nil_iff.2 fun i hi => ?_
      have := all (i + 1) i (by omega) (List.mem_range.1 hi)
      simp only [this, Bool.not_true, Bool.false_eq_true, not_false_eq_true]
    simp only [remG, hnone, List.map_nil, aops] at hwp
    cases hwp with
    | done hk => exact hQ A a w hk hs
  intro fuel
  induction fuel with
  | zero =>
    intro listed A a w hsz hcl hcnt hwp hs
    have hnone : remI listed ops.size = [] := List.length_eq_zero_iff.1 (by omega)
    have hr : Region.ready .any ops listed = [] := by
      refine List.eq_nil_iff_forall_not_mem.2 fun i hi => ?_
      obtain ⟨h1, o, ho, _⟩ := mem_ready.1 hi
      have : i ∈ remI listed ops.size := by
        simp only [remI, List.mem_filter, List.mem_range, h1, Bool.not_false, and_true]
        exact (Array.getElem?_eq_some_iff.1 ho).1
      rw [hnone] at this
      cases this
    exact ⟨hr, last listed A a w hsz hr hwp hs⟩
  | succ fuel ih =>
    intro listed A a w hsz hcl hcnt hwp hs
    refine ⟨fun hr => last listed A a w hsz hr hwp hs, fun i hi => ?_⟩
    obtain ⟨hun, o, ho, hall⟩ := mem_ready.1 hi
    have hin : i < ops.size := (Array.getElem?_eq_some_iff.1 ho).1
    obtain ⟨l1, l2, e1, e2, hl1⟩ := remI_split hin hsz hun
    have hol : ops.toList[i]? = some o := by simpa using ho
    obtain ⟨g, hgi, hcg⟩ := hat i o hol
    have hon : ∀ k ∈ onOf o, listed.getD k false = true := fun k hk => by
      obtain ⟨e, h1, h2, h3⟩ := of_onOf o k hk
      exact h3 ▸ hall e h1 h2
    have hgd : gs.getD i default = g := by simp [List.getD_eq_getElem?_getD, hgi]
    have hwp' : WP c.P c.Y true K (aops (g :: remG gs (listed.setIfInBounds i true) ops.size) A) := by
      simp only [remG, e1, List.map_append, List.map_cons, hgd] at hwp
      simp only [remG, e2, List.map_append]
      refine WP.bring (fun j hj => ?_) hwp
      obtain ⟨k, hk, rfl⟩ := List.mem_map.1 hj
      obtain ⟨hk1, hk2⟩ := hl1 k hk
      refine hd.ind (fun k => listed.getD k false = true) hcl i o g k hol hgi hon hk1 ?_
      have hks : k < listed.size := by omega
      simp [Array.getD_eq_getD_getElem?, hks] at hk2 ⊢
      exact hk2
    unfold wpOpIn
    rw [ho]
    refine gGuard_sound hcg hwp' hs fun B a' w' hw hs' => ih _ B a' w' (by simpa using hsz) ?_ ?_ hw hs'
    · intro m om hom hm k hk
      by_cases hmi : m = i
      · subst hmi
        rw [hol, Option.some.injEq] at hom
        subst hom
        exact getD_set_true (hon k hk)
      · rw [getD_set_ne false (Ne.symm hmi)] at hm
        exact getD_set_true (hcl m om hom hm k hk)
    · have : (remI listed ops.size).length = (remI (listed.setIfInBounds i true) ops.size).length + 1 := by
        rw [e1, e2]; simp; omega
      omega
/-- A region that draws its order. -/
theorem region_draw {K : AState → Prop} {ops : Array Oper} {gs : List G} {Q : Exit → Act → World → Prop} {id : Nat} {A : AState} {a : Act} {w : World} (hm : c.P.follows .mixedOrders = true) (hQ : ∀ B a w, K B → Sim c B a w → Q .normal a w) (hgs : cGs c.P c.n ops ops.toList = some gs) (hd : DrawOk ops.toList gs)
    (hwp : WP c.P c.Y true K (aops gs A)) (hs : Sim c A a w) : (Code.region id ops true).wpIn c.F 9 c.P Q a w := by
  refine wpIn_region_any hm (any_sound hQ hgs hd ops.size (Array.replicate ops.size false) A a _ (by simp) ?_ ?_ ?_ ?_)
  · intro i o _ h
    exfalso
    simp only [Array.getD_eq_getD_getElem?, Array.getElem?_replicate] at h
    split at h <;> simp at h
  · rw [remI_all]; simp
  · have hl := (cGs_at hgs).1
    simp only [Array.length_toList] at hl
    simp only [remG, remI_all]
    rw [← hl, map_getD_range]
    exact hwp
  · obtain ⟨D, E, hs⟩ := hs
    exact ⟨D, E, hs.grow (w' := { w with drawn := w.drawn + 1 }) ⟨rfl, rfl, rfl, Nat.le_refl _, fun _ _ => rfl⟩ (fun _ _ h => h) (fun _ _ h _ => h) (fun b o h => hs.live b o h)⟩
end
end Go.Abs

/-
  THE ABSTRACT LAYER, 14: code, read; its rules; from code to a function's contract. Over any program.
-/
namespace Go.Abs
open Go Go.RowKit
/-- Code, read. -/
inductive AC where
  | reg (on : Option (List (List Nat))) (gs : List G)
  | seq (x y : AC)
  | cond (b : AOpd) (x y : AC)
  | block (id : Nat) (x : AC)
  | loop (x : AC)
  | exit (id : Nat)
  | ret
  | skip
  | scope (x : AC)
  | label
  | rfun (f : AOpd) (ps : List Nat) (x y : AC)
  deriving Inhabited
def cCode (P : Program) (n : Nat) : Code → Option AC
  | .region _ ops draw => match cGs P n ops ops.toList with
    | some gs => if (!draw || P.follows .mixedOrders) = true then some (.reg (bif draw then some (ops.toList.map onOf) else none) gs) else none
    | none => none
  | .seq x y => match cCode P n x, cCode P n y with
    | some x, some y => some (.seq x y)
    | _, _ => none
  | .cond b x y => match cOpd P 0 b, cCode P n x, cCode P n y with
    | some b, some x, some y => some (.cond b x y)
    | _, _, _ => none
  | .block id x => match cCode P n x with
    | some x => some (.block id x)
    | none => none
  | .loop x => match cCode P n x with
    | some x => some (.loop x)
    | none => none
  | .exit id => some (.exit id)
  | .ret => some .ret
  | .skip => some .skip
  | .scope x => match cCode P n x with
    | some x => some (.scope x)
    | none => none
  | .label _ => some .label
  | .rangeFunc f ps x y => match cOpd P 0 f, cCode P n x, cCode P n y with
    | some f, some x, some y => if (ps.toList.all fun p => p < n) = true then some (.rfun f ps.toList x y) else none
    | _, _, _ => none
  | _ => none
def liftQ (c : Ctx) (Q : Exit → AState → Prop) : Exit → Act → World → Prop := fun e a w => ∃ A, Q e A ∧ Sim c A a w
/-- From every frame and world that fit, the code comes to an end of 'Q'. -/
def AW (c : Ctx) (x : AC) (Q : Exit → AState → Prop) (A : AState) : Prop :=
  ∀ code, cCode c.P c.n code = some x → ∀ a w, Sim c A a w → code.wpIn c.F 9 c.P (liftQ c Q) a w
def thenQ (k : AState → Prop) (Q : Exit → AState → Prop) : Exit → AState → Prop
  | .normal, A => k A
  | e, A => Q e A
def blockQ (id : Nat) (Q : Exit → AState → Prop) : Exit → AState → Prop
  | .exit id', A => if id' = id then Q .normal A else Q (.exit id') A
  | e, A => Q e A
section
variable {c : Ctx} {A : AState} {Q : Exit → AState → Prop}
def dOk (d : Option (List (List Nat))) (gs : List G) (cl : List Nat) : Bool := match d with
  | none => true
  | some on => drawOk on gs cl
theorem AW.reg {d : Option (List (List Nat))} {gs : List G} {cl : List Nat} (hd : dOk d gs cl = true) (h : ∀ K : AState → Prop, (∀ B, Q .normal B → K B) → WP c.P c.Y d.isSome K (aops gs A)) : AW c (.reg d gs) Q A := by
  intro code hc a w hs
  cases code <;> simp only [cCode] at hc <;> try (first | (cases hc; done) | ((repeat' split at hc) <;> cases hc; done))
  rename_i id ops draw
  split at hc
  · rename_i gs' hgs
    split at hc
    case isFalse => cases hc
    rename_i hok
    simp only [Option.some.injEq, AC.reg.injEq] at hc
    obtain ⟨rfl, rfl⟩ := hc
    cases draw with
    | false => exact wpIn_region_list (gs_sound (K := Q .normal) (fun B a w hk hs => ⟨B, hk, hs⟩) ops.toList gs' A a w hgs (h _ fun _ hb => hb) hs)
    | true =>
      simp only [Bool.not_true, Bool.false_or] at hok
      exact region_draw (K := Q .normal) hok (fun B a w hk hs => ⟨B, hk, hs⟩) hgs (drawOk_spec (cGs_at hgs).1 hd) (h _ fun _ hb => hb) hs
  · cases hc
theorem AW.seq {x y : AC} (h : AW c x (thenQ (fun B => AW c y Q B) Q) A) : AW c (.seq x y) Q A := by
  intro code hc a w hs
  cases code <;> simp only [cCode] at hc <;> try (first | (cases hc; done) | ((repeat' split at hc) <;> cases hc; done))
  rename_i cx cy
  split at hc
  · rename_i x' y' hx hy
    simp only [Option.some.injEq, AC.seq.injEq] at hc
    obtain ⟨rfl, rfl⟩ := hc
    refine wpIn_seq (wpIn_mono (h cx hx a w hs) ?_)
    rintro e a' w' ⟨B, hq, hs'⟩
    cases e <;> simp only [thenQ, Exit.then] at * <;> first | exact hq cy hy a' w' hs' | exact ⟨B, hq, hs'⟩
  · cases hc
theorem AW.cond {b : AOpd} {x y : AC} {t : Bool} (hb : ev A b = .bool t) (h1 : t = true → AW c x Q A) (h2 : t = false → AW c y Q A) : AW c (.cond b x y) Q A := by
  intro code hc a w hs
  cases code <;> simp only [cCode] at hc <;> try (first | (cases hc; done) | ((repeat' split at hc) <;> cases hc; done))
  rename_i cb cx cy
  split at hc
  · rename_i b' x' y' hb' hx hy
    simp only [Option.some.injEq, AC.cond.injEq] at hc
    obtain ⟨rfl, rfl, rfl⟩ := hc
    obtain ⟨D, E, hs'⟩ := hs
    have hv := ev_ok hs' hb'
    rw [hb] at hv
    exact wpIn_cond_split (rv_bool hv) (fun ht => h1 ht cx hx a w ⟨D, E, hs'⟩) (fun ht => h2 ht cy hy a w ⟨D, E, hs'⟩)
  · cases hc
theorem AW.block {id : Nat} {x : AC} (h : AW c x (blockQ id Q) A) : AW c (.block id x) Q A := by
  intro code hc a w hs
  cases code <;> simp only [cCode] at hc <;> try (first | (cases hc; done) | ((repeat' split at hc) <;> cases hc; done))
  rename_i id' cx
  split at hc
  · rename_i x' hx
    simp only [Option.some.injEq, AC.block.injEq] at hc
    obtain ⟨rfl, rfl⟩ := hc
    refine wpIn_block (wpIn_mono (h cx hx a w hs) ?_)
    rintro e a' w' ⟨B, hq, hs'⟩
    cases e <;> simp only [blockQ, Exit.inBlock] at * <;> first
      | exact ⟨B, hq, hs'⟩
      | (split at hq
         · rename_i he; rw [if_pos he]; exact ⟨B, hq, hs'⟩
         · rename_i he; rw [if_neg he]; exact ⟨B, hq, hs'⟩)
  · cases hc
theorem AW.exit {id : Nat} (h : Q (.exit id) A) : AW c (.exit id) Q A := by
  intro code hc a w hs
  cases code <;> simp only [cCode] at hc <;> try (first | (cases hc; done) | ((repeat' split at hc) <;> cases hc; done))
  simp only [Option.some.injEq, AC.exit.injEq] at hc
  subst hc
  exact wpIn_exit ⟨A, h, hs⟩
theorem AW.ret (h : Q .ret A) : AW c .ret Q A := by
  intro code hc a w hs
  cases code <;> simp only [cCode] at hc <;> try (first | (cases hc; done) | ((repeat' split at hc) <;> cases hc; done))
  exact wpIn_ret ⟨A, h, hs⟩
theorem AW.skip (h : Q .normal A) : AW c .skip Q A := by
  intro code hc a w hs
  cases code <;> simp only [cCode] at hc <;> try (first | (cases hc; done) | ((repeat' split at hc) <;> cases hc; done))
  exact wpIn_skip ⟨A, h, hs⟩
theorem AW.label (h : Q .normal A) : AW c .label Q A := by
  intro code hc a w hs
  cases code <;> simp only [cCode] at hc <;> try (first | (cases hc; done) | ((repeat' split at hc) <;> cases hc; done))
  exact wpIn_label ⟨A, h, hs⟩
def scopeQ (Q : Exit → AState → Prop) : Exit → AState → Prop
  | .goto _, _ => False
  | e, A => Q e A
section
variable {P : Program} {b : Frame} {a : Act} {k : List Item} {cs : List Frame} {w : World}
theorem stepR_scope {c : Code} : step P (lone (b.atR a (.code (.scope c) :: k)) cs w) = .next (lone (b.atR a (.code c :: .inScope c :: k)) cs w) :=
  step_lone_go (by simp [stepG, stepG.exec, Frame.atR])
theorem stepR_inScope {c : Code} : step P (lone (b.atR a (.inScope c :: k)) cs w) = .next (lone (b.atR a k) cs w) :=
  step_lone_go (by simp [stepG, stepG.exec, Frame.atR])
end
/-- A stretch of code with labels to which nothing jumps. -/
theorem wpIn_scope {F : Fence} {n : Nat} {P : Program} {c : Code} {Q : Exit → Act → World → Prop} {a : Act} {w : World} (h : c.wpIn F n P (fun e a w => Q e a w ∧ ∀ l, e ≠ .goto l) a w) : (Code.scope c).wpIn F n P Q a w := by
  intro b k cs hro hb hr
  have h0 : (lone (b.atR a (.code (.scope c) :: k)) cs w).fenced P F := fenced_calm hb hr rfl
  obtain ⟨e, a₁, w₁, ⟨hq, hng⟩, harr⟩ := h b (.inScope c :: k) cs hro hb hr
  cases e with
  | normal => exact ⟨.normal, a₁, w₁, hq, .head h0 stepR_scope (StepsIn.trans harr (.one (fenced_calm hb hr rfl) stepR_inScope))⟩
  | exit id' =>
    have hx : exitTo id' (.inScope c :: k) = exitTo id' k := by simp [exitTo]
    exact ⟨.exit id', a₁, w₁, hq, fun k' hk => .head h0 stepR_scope (harr.1 k' (by rw [hx]; exact hk)),
      fun hr' hk => let ⟨k₁, h1, h2⟩ := harr.2 hr' (by rw [hx]; exact hk); ⟨k₁, h1, .head h0 stepR_scope h2⟩⟩
  | goto l => exact absurd rfl (hng l)
  | ret => exact ⟨_, a₁, w₁, hq, .of_steps (.one h0 stepR_scope) harr⟩
  | panic ch => exact ⟨_, a₁, w₁, hq, .of_steps (.one h0 stepR_scope) harr⟩
  | outgrown => exact ⟨_, a₁, w₁, hq, .of_steps (.one h0 stepR_scope) harr⟩
theorem AW.scope {x : AC} (h : AW c x (scopeQ Q) A) : AW c (.scope x) Q A := by
  intro code hc a w hs
  cases code <;> simp only [cCode] at hc <;> try (first | (cases hc; done) | ((repeat' split at hc) <;> cases hc; done))
  rename_i cx
  split at hc
  · rename_i x' hx
    simp only [Option.some.injEq, AC.scope.injEq] at hc
    subst hc
    refine wpIn_scope (wpIn_mono (h cx hx a w hs) ?_)
    rintro e a' w' ⟨B, hq, hs'⟩
    cases e <;> simp only [scopeQ] at hq <;> first
      | exact hq.elim
      | exact ⟨⟨B, hq, hs'⟩, fun l h => by cases h⟩
  · cases hc
theorem exists_least {p : Nat → Prop} (h : ∃ n, p n) : ∃ n, p n ∧ ∀ m, p m → n ≤ m := by
  obtain ⟨n, hn⟩ := h
  induction n using Nat.strongRecOn with
  | _ n ih =>
    by_cases hm : ∃ m, m < n ∧ p m
    · obtain ⟨m, h1, h2⟩ := hm
      exact ih m h1 h2
    · exact ⟨n, hn, fun m hp => Nat.le_of_not_lt fun hlt => hm ⟨m, hlt, hp⟩⟩
open Classical in
noncomputable def least (p : Nat → Prop) : Nat := if h : ∃ n, p n then (exists_least h).choose else 0
theorem least_spec {p : Nat → Prop} (h : ∃ n, p n) : p (least p) ∧ ∀ m, p m → least p ≤ m := by
  simp only [least, dif_pos h]
  exact (exists_least h).choose_spec
/-- A loop whose rounds go down in a number that no slot need hold. -/
theorem wp_loop_down {F : Fence} {N : Nat} {P : Program} {code : Code} {QQ : Exit → Act → World → Prop} (I : Nat → Act → World → Prop) (round : ∀ n a w, I n a w → code.wpIn F N P (Exit.then (fun a' w' => ∃ m, m < n ∧ I m a' w') QQ) a w) :
    ∀ n a w, I n a w → (Code.loop code).wpIn F N P QQ a w := by
  intro n a w h
  refine wpIn_loop (fun a w => ∃ n, I n a w) (fun a w => least fun n => I n a w) ⟨n, h⟩ ?_
  intro a w hI
  have hm := (least_spec hI).1
  refine wpIn_mono (round _ a w hm) ?_
  intro e a' w' hq
  cases e <;> simp only [Exit.then] at hq ⊢ <;> try exact hq
  obtain ⟨m, h1, h2⟩ := hq
  exact ⟨⟨m, h2⟩, Nat.lt_of_le_of_lt ((least_spec ⟨m, h2⟩).2 m h2) h1⟩
/-- What fits 'A' fits 'B'. -/
def Sub (A B : AState) : Prop := ∀ (c : Ctx) (a : Act) (w : World), Sim c A a w → Sim c B a w
theorem Sub.refl (A : AState) : Sub A A := fun _ _ _ h => h
theorem Sub.trans {A B C : AState} (h : Sub A B) (k : Sub B C) : Sub A C := fun c a w hs => k c a w (h c a w hs)
theorem AW.sub {x : AC} {B : AState} (hsub : Sub A B) (h : AW c x Q B) : AW c x Q A := fun code hc a w hs => h code hc a w (hsub c a w hs)
theorem AW.mono {x : AC} {Q' : Exit → AState → Prop} (h : AW c x Q A) (hq : ∀ e B, Q e B → Q' e B) : AW c x Q' A :=
  fun code hc a w hs => wpIn_mono (h code hc a w hs) fun e a' w' ⟨B, h1, h2⟩ => ⟨B, hq e B h1, h2⟩
/-- A loop: its head's states are told by ghosts 's' of which 'C' holds; each round lowers 'm'. -/
theorem AW.loop {σ : Type} (S : σ → AState) (C : σ → Prop) (m : σ → Nat) (s0 : σ) {x : AC} (h0 : C s0) (hsub : Sub A (S s0))
    (round : ∀ s, C s → AW c x (thenQ (fun B => ∃ s', C s' ∧ m s' < m s ∧ Sub B (S s')) Q) (S s)) : AW c (.loop x) Q A := by
  intro code hc a w hs
  cases code <;> simp only [cCode] at hc <;> try (first | (cases hc; done) | ((repeat' split at hc) <;> cases hc; done))
  rename_i cx
  split at hc
  · rename_i x' hx
    simp only [Option.some.injEq, AC.loop.injEq] at hc
    subst hc
    refine wp_loop_down (fun n a w => ∃ s, C s ∧ m s = n ∧ Sim c (S s) a w) ?_ (m s0) a w ⟨s0, h0, rfl, hsub c a w hs⟩
    rintro n a w ⟨s, hC, rfl, hs⟩
    refine wpIn_mono (round s hC cx hx a w hs) ?_
    rintro e a' w' ⟨B, hq, hs'⟩
    cases e <;> simp only [thenQ, Exit.then] at * <;> first
      | exact ⟨B, hq, hs'⟩
      | (obtain ⟨s', h1, h2, h3⟩ := hq; exact ⟨m s', h2, s', h1, rfl, h3 c a' w' hs'⟩)
  · cases hc
end
/-! ### from a body to a contract -/
inductive RV where
  | tmp (t : Nat)
  | cell (a : Nat) (s : Option Nat)
def cRes (P : Program) : List ResultVar → Option (List RV)
  | [] => some []
  | .tmp t :: l => (cRes P l).map (.tmp t :: ·)
  | .cell a t :: l => match ldK P t, cRes P l with
    | some s, some l => some (.cell a s :: l)
    | _, _ => none
def resOf (A : AState) : RV → Option AV
  | .tmp t => fin true A (A.t t)
  | .cell a s => match deref A (A.t a) with
    | some x => if okLd s x then fin true A x else none
    | none => none
def resAll (A : AState) : List RV → Option (List AV)
  | [] => some []
  | r :: rs => match resOf A r, resAll A rs with
    | some x, some xs => some (x :: xs)
    | _, _ => none
def packR : List AV → AV
  | [x] => x
  | xs => .tuple xs
/-- The slots at a call's beginning. -/
def start (args : List AV) : AState := ⟨fun t => args.getD t .undef, fun _ => none⟩
def retQ (rs : List RV) (r : AV) : Exit → AState → Prop
  | .ret, A => ∃ xs, resAll A rs = some xs ∧ packR xs = r
  | .normal, A => ∃ xs, resAll A rs = some xs ∧ packR xs = r
  | _, _ => False
/-- The slots and objects at the beginning of a call that is handed objects. -/
def startO (args : List AV) (os : List (Nat × AO)) : AState := ⟨fun t => args.getD t .undef, lookO os⟩
theorem start_sim {P : Program} {n : Nat} {w : World} {D : Dom} {E : Env} {Y : Value → List AV → List (Nat × AO) → Post → Prop} {args : List AV} {os : List (Nat × AO)} {vs : List Value} (hD : ∀ b o, D b o → b < w.heap.size) (ho : HeldO (fun _ => True) w D E (lookO os))
    (hv : rvs w D E args vs) (hn : vs.length ≤ n) (hos : ∀ m, isIn os m = true → n ≤ m ∧ 1000000 ≤ m) (hy : YOk ⟨P, w, D, n, ownE E, E, Y, none⟩) :
    SimW ⟨P, w, D, n, ownE E, E, Y, none⟩ (startO args os) { tmps := vs.toArray ++ Array.replicate (n - vs.toArray.size) undef, defers := [] } w D E := by
  refine ⟨by simp; omega, ⟨[], rfl, .nil, fun _ h => by simp at h⟩, fun t => ?_, Kept.refl _ _, fun _ _ h _ => h, hD, fun m => ?_, ho.sep, fun m e h _ => .inr h, fun m hm => ?_, fun _ _ h => h, hy⟩
  · have key : ∀ (args : List AV) (vs : List Value) (t : Nat), rvs w D E args vs → rv w D E (args.getD t .undef) (vs.getD t undef) := by
      intro args
      induction args with
      | nil => intro vs t h; simp only [rvs] at h; subst h; simp [rv]
      | cons x xs ih =>
        intro vs t h
        simp only [rvs] at h
        obtain ⟨v, rest, cs, rfl, h1, h2, h3⟩ := h
        cases t with
        | zero => simpa using mk_val h1 h2
        | succ t => simpa using ih rest t h3
    have := key args vs t hv
    have e : (vs.toArray ++ Array.replicate (n - vs.toArray.size) undef).getD t undef = vs.getD t undef := by
      simp only [Array.getD_eq_getD_getElem?, List.getD_eq_getElem?_getD]
      rcases Nat.lt_or_ge t vs.length with h | h
      · rw [Array.getElem?_append_left (by simpa using h)]
        simp
      · rw [Array.getElem?_append_right (by simpa using h), List.getElem?_eq_none h]
        simp only [Array.getElem?_replicate]
        split <;> rfl
    simp only [startO]
    rw [e]
    exact this
  · have h := ho.obj m
    simp only [startO]
    cases hx : lookO os m with
    | none => rw [hx] at h; exact h
    | some x =>
      rw [hx] at h
      cases x with
      | box x =>
        obtain ⟨b, cs, T, k1, _, k3⟩ := h
        exact ⟨b, cs, T, k1, .inr ⟨m, _, k1, rfl⟩, k3⟩
      | row T sz es =>
        obtain ⟨blk, k1, k2, k3⟩ := h
        refine ⟨blk, k1, k2, ?_⟩
        cases blk with
        | none => exact k3
        | some bc =>
          obtain ⟨b, cap⟩ := bc
          obtain ⟨cs, pre, rest, _, k4⟩ := k3
          exact ⟨cs, pre, rest, .inr ⟨m, _, k1, rfl⟩, k4⟩
      | opq x =>
        obtain ⟨b, k1, _, k3⟩ := h
        exact ⟨b, k1, .inr ⟨m, _, k1, rfl⟩, k3⟩
  · have h := ho.obj m
    refine hos m ?_
    cases hx : lookO os m with
    | none => rw [hx] at h; exact absurd h hm
    | some x => simp [isIn, hx]
def resVal (tmps : Array Value) : ResultVar → Sem Value
  | .tmp t => pure (tmps.getD t undef)
  | .cell a t => do loadVar t (← asAddr (tmps.getD a undef))
theorem results_eq (fn : Func) (tmps : Array Value) : results fn tmps = (do
    let vs ← fn.results.mapM (resVal tmps)
    pure (if h : vs.size = 1 then vs[0] else .tuple vs)) := by
  unfold results
  rfl
/-- What a result is, as it stands. -/
def rawV (A : AState) : RV → Option AV
  | .tmp t => some (A.t t)
  | .cell a s => match deref A (A.t a) with
    | some x => if okLd s x then some x else none
    | none => none
/-- The results: objects that are handed back by name, all else as others may hold it. -/
def resL (A A0 : AState) (os : List (Nat × AO)) : List RV → List AV → Prop
  | [], [] => True
  | r :: rs, y :: ys => (∃ x, rawV A r = some x ∧ ((y = x ∧ x.isVal = true ∧ x.only (isIn os) = true) ∨ fin true A0 x = some y)) ∧ resL A A0 os rs ys
  | _, _ => False
/-- The state without these objects. -/
def AState.sans (A : AState) (os : List (Nat × AO)) : AState := ⟨A.t, fun n => if isIn os n then none else A.o n⟩
def RetO (rs : List RV) (post : Post) (A : AState) : Prop :=
  ∃ (os : List (Nat × AO)) (xs : List AV), (∀ n x, lookO os n = some x → A.o n = some x ∧ x.only (isIn os) = true ∧ x.fix = true) ∧ resL A (A.sans os) os rs xs ∧ post (packR xs) os
def retO (rs : List RV) (post : Post) : Exit → AState → Prop
  | .ret, A => RetO rs post A
  | .normal, A => RetO rs post A
  | _, _ => False
theorem resL_ok {c : Ctx} {A : AState} {a : Act} {w : World} {D : Dom} {E : Env} (hs : SimW c A a w D E) {A0 : AState} (hu : Up A0 A) {os : List (Nat × AO)} {D' : Dom} {E' : Env} (hw : Wide true A0 D E D') (hE : ∀ n, isIn os n = true → E' n = E n) (hE' : ∀ n, isIn os n = false → E' n = none) :
    ∀ (rs : List ResultVar) (ls : List RV) (xs : List AV), cRes c.P rs = some ls → resL A A0 os ls xs → ∃ vs : List Value, (rs.mapM (resVal a.tmps)).run c.P w = .ok vs w ∧ rvs w D' E' xs vs
  | [], ls, xs, hc, hr => by
    simp only [cRes, Option.some.injEq] at hc
    subst hc
    cases xs with
    | nil => exact ⟨[], by simp, by simp [rvs]⟩
    | cons x xs => simp [resL] at hr
  | r :: rs, ls, xs, hc, hr => by
    have hl : Later w D E' w D' E' := ⟨hw.dom, fun _ _ _ _ h => h, fun _ _ _ h => h, fun _ blk l h => ⟨blk, l, h, Nat.le_refl _, fun _ => rfl⟩⟩
    have fin1 : ∀ {x y : AV} {v : Value}, rv w D E x v → ((y = x ∧ x.isVal = true ∧ x.only (isIn os) = true) ∨ fin true A0 x = some y) → ∃ cs, isPack y v cs ∧ rc w D' E' y cs := by
      intro x y v hv hf
      rcases hf with ⟨rfl, h1, h2⟩ | hf
      · have h3 := rv.later hl (rv.restrict hE h2 hv)
        cases y <;> simp only [rv] at h3 <;> first | (simp [AV.isVal] at h1; done) | exact h3
      · have h1 : rvs w D E [x] [v] := rvs_of [x] [v] (.cons hv .nil) (by
          intro z hz
          simp only [List.mem_singleton] at hz
          subst hz
          cases z <;> simp_all [fin, AV.isVal])
        have h2 := fin_rvs (E' := E') hs hu hw [x] [y] [v] h1 (by simp [fins, hf])
        simp only [rvs] at h2
        obtain ⟨v', rest, cs, e, k1, k2, _⟩ := h2
        simp only [List.cons.injEq] at e
        obtain ⟨rfl, _⟩ := e
        exact ⟨cs, k1, k2⟩
    cases r with
    | tmp t =>
      simp only [cRes, Option.map_eq_some_iff] at hc
      obtain ⟨ls', hl', rfl⟩ := hc
      cases xs with
      | nil => simp [resL] at hr
      | cons y ys =>
        simp only [resL] at hr
        obtain ⟨⟨x, h1, h2⟩, h3⟩ := hr
        simp only [rawV, Option.some.injEq] at h1
        subst h1
        obtain ⟨vs, k1, k2⟩ := resL_ok hs hu hw hE hE' rs ls' ys hl' h3
        obtain ⟨cs, k3, k4⟩ := fin1 (hs.tm t) h2
        refine ⟨a.tmps.getD t undef :: vs, ?_, ?_⟩
        · simp only [List.mapM_cons, Sem.run_bind, resVal, Sem.run_pure, Result.andThen_ok, k1]
        · simp only [rvs]; exact ⟨_, vs, cs, rfl, k3, k4, k2⟩
    | cell ad t =>
      simp only [cRes] at hc
      split at hc
      · rename_i s ls' hk hl'
        simp only [Option.some.injEq] at hc
        subst hc
        cases xs with
        | nil => simp [resL] at hr
        | cons y ys =>
          simp only [resL] at hr
          obtain ⟨⟨x, h1, h2⟩, h3⟩ := hr
          obtain ⟨vs, k1, k2⟩ := resL_ok hs hu hw hE hE' rs ls' ys hl' h3
          simp only [rawV] at h1
          split at h1
          · rename_i z hz
            split at h1
            · rename_i hok
              simp only [Option.some.injEq] at h1
              subst h1
              obtain ⟨b, off, cs, q1, q2, q3⟩ := hs.behind (hs.tm ad) hz
              obtain ⟨v, q4, q5⟩ := run_loadVar_known hk hok q2 q3
              obtain ⟨cs', k3, k4⟩ := fin1 q5 h2
              refine ⟨v :: vs, ?_, ?_⟩
              · have e : (resVal a.tmps (.cell ad t)).run c.P w = .ok v w := by
                  simp only [resVal, Sem.run_bind, q1, asAddr, Sem.run_pure, Result.andThen_ok, q4]
                simp only [List.mapM_cons, Sem.run_bind, Sem.run_pure, Result.andThen_ok, k1, e]
              · simp only [rvs]; exact ⟨_, vs, cs', rfl, k3, k4, k2⟩
            · cases h1
          · cases h1
      · cases hc
/-! ### marks are closed -/
theorem cell_putObj {w : World} {B : Nat} {o o' : Obj} (h : w.heap[B]? = some o) (ho : o.isCells = false) {b off : Nat} {v : Value} (hv : w.cell? ⟨b, off, none⟩ = some v) : (w.putObj B o').cell? ⟨b, off, none⟩ = some v := by
  have hne : b ≠ B := fun e => by
    obtain ⟨o2, h2, h3⟩ := cells_of_cell hv
    simp only at h2
    rw [e, h] at h2
    cases h2
    rw [ho] at h3; cases h3
  rw [World.cell?_of_block (w := w) (World.putObj_heap_other hne)]
  exact hv
theorem SimW.close {c : Ctx} {A : AState} {a : Act} {w : World} {D : Dom} {E : Env} (h : SimW c A a w D E) {B : Nat} {ds : List Deferred} (hd : a.defers = { target := .collected B, args := #[] } :: ds) :
    w.heap[B]? = some (.deferred (some [])) ∧ SimW c A { a with defers := ds } (w.putObj B (.deferred none)) D E := by
  obtain ⟨Bs, h1, h2, h3⟩ := h.defs
  rw [hd] at h1
  cases Bs with
  | nil => cases h1
  | cons B' Bs =>
    simp only [List.map_cons, List.cons.injEq, Deferred.mk.injEq, Target.collected.injEq, and_true] at h1
    obtain ⟨rfl, rfl⟩ := h1
    have hB := h3 B (by simp)
    have hlt : B < w.heap.size := (Array.getElem?_eq_some_iff.1 hB.2).1
    have hl : Later w D E (w.putObj B (.deferred none)) D E :=
      ⟨fun _ _ h => h, fun b o v _ hv => cell_putObj hB.2 rfl hv, fun _ _ _ h => h, fun _ blk l h => ⟨blk, l, h, Nat.le_refl _, fun _ => rfl⟩⟩
    have hne : ∀ {b : Nat} {cs : Array Value} {T : TypeId}, w.heap[b]? = some (.cells cs T (0, 0)) → (w.putObj B (.deferred none)).heap[b]? = w.heap[b]? := fun {b cs T} hb =>
      World.putObj_heap_other (fun e => by rw [e, hB.2] at hb; cases hb)
    refine ⟨hB.2, h.sz, ⟨Bs, rfl, (List.nodup_cons.1 h2).2, fun B2 hB2 => ⟨(h3 B2 (by simp [hB2])).1, ?_⟩⟩, fun t => rv.later hl (h.tm t), h.unch.trans ⟨rfl, rfl, rfl, by simp, fun k hk => ?_⟩, h.dom, fun b o hd => by have := h.live b o hd; simpa using this, fun n => ?_, h.sep, h.hist, h.nam, h.up, h.yok⟩
    · rw [World.putObj_heap_other (fun e => (List.nodup_cons.1 h2).1 (by rw [← e]; exact hB2))]
      exact (h3 B2 (by simp [hB2])).2
    · exact World.putObj_heap_other (fun e => hk (e ▸ .inl hB.1))
    · refine (h.obj n).later hl rfl fun e b he hb => ⟨?_, fun _ h => h⟩
      have hob := h.obj n
      unfold objOk at hob
      split at hob
      · rw [hob] at he; cases he
      · obtain ⟨b', cs, T, k1, _, k3, _⟩ := hob
        rw [k1, Option.some.injEq] at he
        subst he
        simp only [Ent.blk, Option.some.injEq] at hb
        subst hb
        exact hne k3
      · obtain ⟨blk, k1, _, k3⟩ := hob
        rw [k1, Option.some.injEq] at he
        subst he
        split at k3
        · simp [Ent.blk] at hb
        · obtain ⟨cs, pre, rest, _, k5, _⟩ := k3
          simp only [Ent.blk, Option.some.injEq] at hb
          subst hb
          exact hne k5
      · obtain ⟨b', k1, _, k3, k4, _⟩ := hob
        rw [k1, Option.some.injEq] at he
        subst he
        simp only [Ent.blk, Option.some.injEq] at hb
        subst hb
        exact World.putObj_heap_other (fun e => by rw [e, hB.2] at k3; cases k3; cases k4)
/-- What a call that is handed objects leaves behind. -/
def Left (w : World) (D : Dom) (E : Env) (post : Post) (v : Value) (w' : World) : Prop :=
  ∃ D' E' r os', post r os' ∧ rv w' D' E' r v ∧ HeldO (fun b => w.heap.size ≤ b ∨ ownE E b) w' D' E' (lookO os') ∧
    Kept (fun b => w.heap.size ≤ b ∨ ownE E b) w w' ∧ (∀ b o, D b o → D' b o) ∧ (∀ b o, D' b o → b < w'.heap.size) ∧ (∀ b o, D' b o → b < w.heap.size → ¬ ownE E b → D b o) ∧
    ∀ n e, E n = some e → e.fix = true → isIn os' n = true → E' n = some e
/-- What a frame holds, given back: all that it has made may be read for good, but for these objects. -/
theorem SimW.leave0 {P : Program} {n : Nat} {w : World} {D : Dom} {E : Env} {Y : Value → List AV → List (Nat × AO) → Post → Prop} {rnd : Option Nat} {A : AState} {a : Act} {w' : World} {D' : Dom} {E' : Env}
    (hs : SimW ⟨P, w, D, n, ownE E, E, Y, rnd⟩ A a w' D' E') {os : List (Nat × AO)} (h1 : ∀ n x, lookO os n = some x → A.o n = some x ∧ x.only (isIn os) = true ∧ x.fix = true) :
    ∃ D2 E2, Wide true (A.sans os) D' E' D2 ∧ (∀ n, isIn os n = true → E2 n = E' n) ∧ (∀ n, isIn os n = false → E2 n = none) ∧ HeldO (fun b => w.heap.size ≤ b ∨ ownE E b) w' D2 E2 (lookO os) ∧
      Kept (fun b => w.heap.size ≤ b ∨ ownE E b) w w' ∧ (∀ b o, D b o → D2 b o) ∧ (∀ b o, D2 b o → b < w'.heap.size) ∧ (∀ b o, D2 b o → b < w.heap.size → ¬ ownE E b → D b o) ∧
      ∀ n e, E n = some e → e.fix = true → isIn os n = true → E2 n = some e := by
  obtain ⟨c, hc⟩ : ∃ c : Ctx, c = ⟨P, w, D, n, ownE E, E, Y, rnd⟩ := ⟨_, rfl⟩
  rw [← hc] at hs
  have hM : c.Mine = fun b => w.heap.size ≤ b ∨ ownE E b := by rw [hc]; rfl
  obtain ⟨E2, hE2⟩ : ∃ E2 : Env, E2 = fun n => if isIn os n then E' n else none := ⟨_, rfl⟩
  obtain ⟨D2, hD2⟩ : ∃ D2 : Dom, D2 = fun b o => b < w'.heap.size ∧ ¬ ownE E2 b ∧ (c.Mine b ∨ D' b o) := ⟨_, rfl⟩
  have e2 : ∀ n, isIn os n = true → E2 n = E' n := fun n hn => by rw [hE2]; simp only [hn, if_true]
  have held : ∀ m, isIn os m = true → ∃ x e b, lookO os m = some x ∧ E' m = some e ∧ e.blk = some b ∧ (∀ o, ¬ D' b o) ∧ x.only (isIn os) = true ∧ objOk c.Mine w' D' E' m (some x) ∧ x.fix = true := fun m hm => by
    cases hx : lookO os m with
    | none => simp [isIn, hx] at hm
    | some x =>
      obtain ⟨k1, k2, k3⟩ := h1 m x hx
      have ho := hs.obj m
      rw [k1] at ho
      cases x with
      | row T sz es => cases k3
      | box y =>
        obtain ⟨b, cs, T, q1, q2, q3, q4, q5⟩ := ho
        exact ⟨_, _, b, rfl, q1, rfl, q5, k2, ⟨b, cs, T, q1, q2, q3, q4, q5⟩, rfl⟩
      | opq o =>
        obtain ⟨b, q1, q2, q3, q4, q5⟩ := ho
        exact ⟨_, _, b, rfl, q1, rfl, q5, k2, ⟨b, q1, q2, q3, q4, q5⟩, rfl⟩
  have own2 : ∀ b, ownE E2 b → ∃ m, isIn os m = true ∧ (∃ e, E' m = some e ∧ e.blk = some b) ∧ ∀ o, ¬ D' b o := fun b hb => by
    obtain ⟨m, e, k1, k2⟩ := hb
    rw [hE2] at k1
    simp only at k1
    split at k1
    · rename_i hm
      obtain ⟨x, e', b', q1, q2, q3, q4, q5, q6, _⟩ := held m hm
      rw [q2, Option.some.injEq] at k1
      subst k1
      rw [q3, Option.some.injEq] at k2
      subst k2
      exact ⟨m, hm, ⟨_, q2, q3⟩, q4⟩
    · cases k1
  have up2 : ∀ b o, D' b o → D2 b o := fun b o hd => by
    rw [hD2]
    refine ⟨hs.live b o hd, fun hb => ?_, .inr hd⟩
    obtain ⟨m, _, _, k⟩ := own2 b hb
    exact k o hd
  have hu : Up (A.sans os) A := fun n x hx => by
    simp only [AState.sans] at hx
    split at hx
    · cases hx
    · exact hx
  have notOwn : ∀ n e b, (A.sans os).o n ≠ none → E' n = some e → e.blk = some b → ¬ ownE E2 b := fun n e b hn he hb ho => by
    obtain ⟨m, k1, ⟨e', k2, k3⟩, _⟩ := own2 b ho
    have := hs.sep n m e _ b he k2 hb k3
    subst this
    simp [AState.sans, k1] at hn
  have hw : Wide true (A.sans os) D' E' D2 := by
    refine ⟨up2, fun n T sz es b cap hn hE o _ => ?_, fun _ n x b sh hn hE o _ => ?_⟩
    · rw [hD2]
      refine ⟨hs.blk_lt hE rfl, notOwn n _ b (by rw [hn]; simp) hE rfl, .inl ?_⟩
      obtain ⟨blk, k1, k2, k3⟩ := hs.row (hu n _ hn)
      rw [hE] at k1
      simp only [Option.some.injEq, Ent.rw.injEq, and_true] at k1
      subst k1
      obtain ⟨_, _, _, k4, _⟩ := k3
      exact k4
    · rw [hD2]
      refine ⟨hs.blk_lt hE rfl, notOwn n _ b (by rw [hn]; simp) hE rfl, .inl ?_⟩
      obtain ⟨b', cs, T, k1, k2, _⟩ := hs.box (hu n _ hn)
      rw [k1] at hE
      simp only [Option.some.injEq, Ent.bx.injEq] at hE
      obtain ⟨rfl, _⟩ := hE
      exact k2
  refine ⟨D2, E2, hw, e2, fun n hn => by rw [hE2]; simp [hn], ⟨fun m => ?_, fun m m' e e' b g1 g2 g3 g4 => ?_⟩, ?_, fun b o hd => up2 b o (hs.up b o (by rw [hc]; exact hd)), fun b o hd => by rw [hD2] at hd; exact hd.1, fun b o hd hlt hno => ?_, fun m e hm hfx hin => ?_⟩
  · cases hx : lookO os m with
    | none => simp only [objOk]; rw [hE2]; simp [isIn, hx]
    | some x =>
      have hm : isIn os m = true := by simp [isIn, hx]
      obtain ⟨x', e', b, q1, q2, q3, q4, q5, q6, q7⟩ := held m hm
      rw [hx, Option.some.injEq] at q1
      subst q1
      have nD : ∀ o, ¬ D2 b o := fun o hd => by
        rw [hD2] at hd
        exact hd.2.1 ⟨m, _, (e2 m hm).trans q2, q3⟩
      cases x with
      | row T sz es => cases q7
      | box y =>
        obtain ⟨b', cs, T, k1, k2, k3, k4, k5⟩ := q6
        rw [q2, Option.some.injEq] at k1
        subst k1
        simp only [Ent.blk, Option.some.injEq] at q3
        subst q3
        refine ⟨b', cs, T, (e2 m hm).trans q2, by rw [← hM]; exact k2, k3, ?_, nD⟩
        exact rc.later (E := E2) ⟨up2, fun _ _ _ _ h => h, fun _ _ _ h => h, fun _ blk l h => ⟨blk, l, h, Nat.le_refl _, fun _ => rfl⟩⟩ _ _ (rc.restrict e2 _ _ (by simpa [AO.only] using q5) k4)
      | opq o =>
        obtain ⟨b', k1, k2, k3, k4, k5⟩ := q6
        rw [q2, Option.some.injEq] at k1
        subst k1
        simp only [Ent.blk, Option.some.injEq] at q3
        subst q3
        exact ⟨b', (e2 m hm).trans q2, by rw [← hM]; exact k2, k3, k4, nD⟩
  · have cut : ∀ n e, E2 n = some e → E' n = some e := fun n e he => by
      rw [hE2] at he
      simp only at he
      split at he
      · exact he
      · cases he
    exact hs.sep m m' e e' b (cut m e g1) (cut m' e' g2) g3 g4
  · rw [← hM]
    have := hs.unch
    rw [hc] at this ⊢
    exact this
  · rw [hD2] at hd
    have hnm : ¬ c.Mine b := by rw [hM]; rintro (h | h); · omega
                                · exact hno h
    rcases hd.2.2 with h | h
    · exact absurd h hnm
    · have := hs.dom b o h hnm
      rw [hc] at this; exact this
  · rw [e2 m hin]
    obtain ⟨x, e', b', q1, q2, _⟩ := held m hin
    rcases hs.hist m e (by rw [hc]; exact hm) hfx with h | h
    · rw [h] at q2; cases q2
    · exact h
theorem SimW.leave {P : Program} {n : Nat} {w : World} {D : Dom} {E : Env} {Y : Value → List AV → List (Nat × AO) → Post → Prop} {rs : List RV} {post : Post} {fn : Func} {A : AState} {a : Act} {w' : World} {D' : Dom} {E' : Env}
    (hs : SimW ⟨P, w, D, n, ownE E, E, Y, none⟩ A a w' D' E') (hrs : cRes P fn.results.toList = some rs) (h : RetO rs post A) : ∃ v, (results fn a.tmps).run P w' = .ok v w' ∧ Left w D E post v w' := by
  obtain ⟨os, xs, h1, h2, h3⟩ := h
  obtain ⟨D2, E2, hw, e2, e2n, q1, q2, q3, q4, q5, q6⟩ := hs.leave0 h1
  have hu : Up (A.sans os) A := fun n x hx => by
    simp only [AState.sans] at hx
    split at hx
    · cases hx
    · exact hx
  obtain ⟨vs, k1, k2⟩ := resL_ok hs hu (os := os) (E' := E2) hw e2 e2n fn.results.toList rs xs hrs h2
  have hres : (results fn a.tmps).run P w' = .ok (if h : vs.toArray.size = 1 then vs.toArray[0] else .tuple vs.toArray) w' := by
    rw [results_eq, Sem.run_bind, Array.mapM_eq_mapM_toList, Sem.run_map, k1]
    rfl
  refine ⟨_, hres, D2, E2, packR xs, os, h3, ?_, q1, q2, q3, q4, q5, q6⟩
  match xs, vs, k2 with
  | [x], vs, k2 =>
    simp only [rvs] at k2
    obtain ⟨v, rest, cs, rfl, q1, q2, rfl⟩ := k2
    simpa [packR] using mk_val q1 q2
  | [], vs, k2 =>
    simp only [rvs] at k2
    subst k2
    simp [packR, rv, rvs]
  | x :: y :: xs, vs, k2 =>
    have hl : vs.length ≠ 1 := by
      simp only [rvs] at k2
      obtain ⟨v, rest, cs, rfl, _, _, v2, rest2, cs2, rfl, _⟩ := k2
      simp
    simp only [packR, rv]
    exact ⟨vs, by simp [hl], k2⟩
theorem leaves_marks {P : Program} {n : Nat} {w : World} {D : Dom} {E : Env} {Y : Value → List AV → List (Nat × AO) → Post → Prop} {rs : List RV} {post : Post} {fn : Func} {A : AState} {D' : Dom} {E' : Env} (hrs : cRes P fn.results.toList = some rs) (h : RetO rs post A) :
    ∀ (ds : List Deferred) (a : Act) (w' : World), a.defers = ds → SimW ⟨P, w, D, n, ownE E, E, Y, none⟩ A a w' D' E' → LeavesInM Fence.wide 9 P fn a.tmps (fun e w' => ∃ v, e = .returned v ∧ Left w D E post v w') ds .returning w'
  | [], a, w', _, hs => by
    obtain ⟨v, h1, h2⟩ := hs.leave hrs h
    exact ⟨v, h1, v, rfl, h2⟩
  | d :: ds, a, w', hd, hs => by
    obtain ⟨Bs, h1, _⟩ := hs.defs
    rw [hd] at h1
    cases Bs with
    | nil => cases h1
    | cons B Bs =>
      simp only [List.map_cons, List.cons.injEq] at h1
      obtain ⟨rfl, rfl⟩ := h1
      obtain ⟨k1, k2⟩ := hs.close hd
      exact ⟨by simp, .inl ⟨B, _, rfl, run_takeDeferred k1, leaves_marks hrs h _ { a with defers := Bs.map _ } _ rfl k2⟩⟩
theorem rvs_length {w : World} {D : Dom} {E : Env} : ∀ {args : List AV} {vs : List Value}, rvs w D E args vs → vs.length = args.length
  | [], vs, h => by simp only [rvs] at h; subst h; rfl
  | x :: xs, vs, h => by
    simp only [rvs] at h
    obtain ⟨v, rest, cs, rfl, _, _, h3⟩ := h
    simp [rvs_length h3]
/-- THE CONTRACT OF A FUNCTION THAT IS HANDED OBJECTS, AND A FUNCTION VALUE THAT IT MAY CALL AS 'Y' SAYS. -/
def CtrY (P : Program) (f : FuncId) (Y : Value → List AV → List (Nat × AO) → Post → Prop) (args : List AV) (os : List (Nat × AO)) (post : Post) : Prop :=
  callable P f = true ∧ ∀ (w : World) (D : Dom) (E : Env) (vs : List Value), (∀ n, YOk ⟨P, w, D, n, ownE E, E, Y, none⟩) → (∀ b o, D b o → b < w.heap.size) → HeldO (fun _ => True) w D E (lookO os) → rvs w D E args vs →
    Calls P f vs.toArray w fun e w' => ∃ v, e = .returned v ∧ Left w D E post v w'
/-- **From a function's body to its contract.** -/
theorem CtrY.of_AW {P : Program} {f : FuncId} {fn : Func} {body : Code} {x : AC} {rs : List RV} {Y : Value → List AV → List (Nat × AO) → Post → Prop} {args : List AV} {os : List (Nat × AO)} {post : Post} (hf : P.funcs[f]? = some fn) (hb : fn.body = some body) (hcall : callable P f = true) (hc : cCode P fn.ntmps body = some x)
    (hrs : cRes P fn.results.toList = some rs) (hn : args.length ≤ fn.ntmps) (hos : ∀ m, isIn os m = true → fn.ntmps ≤ m ∧ 1000000 ≤ m) (h : ∀ (w : World) (D : Dom) (E : Env), AW ⟨P, w, D, fn.ntmps, ownE E, E, Y, none⟩ x (retO rs post) (startO args os)) : CtrY P f Y args os post := by
  refine ⟨hcall, fun w D E vs hy hD ho hv => ?_⟩
  have hlen := rvs_length hv
  have hsim := start_sim (P := P) (n := fn.ntmps) (Y := Y) hD ho hv (by omega) hos (hy fn.ntmps)
  refine (callsIn_wide (n := 9)).1 (callsIn_of_wp_marks hf hb trivial ?_)
  refine wpIn_mono (h w D E body hc _ w ⟨D, E, hsim⟩) ?_
  rintro e a w' ⟨A, hq, D', E', hs⟩
  cases e <;> simp only [retO] at hq <;> first
    | exact leaves_marks hrs hq a.defers a w' rfl hs
    | cases hq
theorem yok_none {P : Program} {w : World} {D : Dom} {E : Env} {n : Nat} : YOk ⟨P, w, D, n, ownE E, E, noY, none⟩ := fun _ _ _ _ h => h.elim
theorem CtrO.of_Y {P : Program} {f : FuncId} {args : List AV} {os : List (Nat × AO)} {post : Post} (h : CtrY P f noY args os post) : CtrO P f args os post :=
  ⟨h.1, fun w D E vs _ hD ho hv => (h.2 w D E vs (fun _ => yok_none) hD ho hv).mono fun e w' ⟨v, he, D', E', r, os', k⟩ => ⟨v, D', E', r, os', he, k⟩⟩
theorem Ctr.of_O {P : Program} {f : FuncId} {args : List AV} {r : AV} (h : CtrO P f args [] (fun r' os' => r' = r ∧ os' = [])) : Ctr P f args r := by
  refine ⟨h.1, fun w D vs hD hv => ?_⟩
  have hh : HeldO (fun _ => True) w D E0 (lookO []) := ⟨fun n => rfl, fun n m e e' b h => by simp [E0] at h⟩
  refine (h.2 w D E0 vs trivial hD hh hv).mono fun e w' hq => ?_
  obtain ⟨v, D', E', r', os', he, ⟨h1, h2⟩, k1, k2, k3, k4, k5, k6, _⟩ := hq
  subst h1 h2
  refine ⟨v, D', he, ?_, ?_, k5, fun b o hd hlt => k6 b o hd hlt fun ⟨n, e, h, _⟩ => by simp [E0] at h⟩
  · have : E' = E0 := by funext n; exact k2.obj n
    rw [← this]; exact k1
  · exact k3.below fun k hk hm => by
      rcases hm with hm | ⟨n, e, h, _⟩
      · omega
      · simp [E0] at h
theorem sans_nil (A : AState) : A.sans [] = A := rfl
theorem resL_of_all {A : AState} : ∀ {rs : List RV} {xs : List AV}, resAll A rs = some xs → resL A (A.sans []) [] rs xs
  | [], xs, h => by simp only [resAll, Option.some.injEq] at h; subst h; trivial
  | r :: rs, xs, h => by
    simp only [resAll] at h
    split at h
    · rename_i x xs' h1 h2
      simp only [Option.some.injEq] at h
      subst h
      refine ⟨?_, resL_of_all h2⟩
      rw [sans_nil]
      cases r with
      | tmp t => exact ⟨_, rfl, .inr h1⟩
      | cell a s =>
        simp only [resOf, rawV] at h1 ⊢
        split at h1
        · rename_i y hy
          split at h1
          · rename_i hok
            exact ⟨y, by simp [hok], .inr h1⟩
          · cases h1
        · cases h1
    · cases h
theorem retO_of_Q {rs : List RV} {r : AV} {e : Exit} {A : AState} (h : retQ rs r e A) : retO rs (fun r' os' => r' = r ∧ os' = []) e A := by
  cases e <;> simp only [retQ] at h <;> first
    | exact h.elim
    | (obtain ⟨xs, h1, h2⟩ := h
       exact ⟨[], xs, fun n x hx => by simp [lookO] at hx, resL_of_all h1, h2, rfl⟩)
theorem Ctr.of_AW {P : Program} {f : FuncId} {fn : Func} {body : Code} {x : AC} {rs : List RV} {args : List AV} {r : AV} (hf : P.funcs[f]? = some fn) (hb : fn.body = some body) (hcall : callable P f = true) (hc : cCode P fn.ntmps body = some x)
    (hrs : cRes P fn.results.toList = some rs) (hn : args.length ≤ fn.ntmps) (h : ∀ (w : World) (D : Dom) (E : Env), AW ⟨P, w, D, fn.ntmps, ownE E, E, noY, none⟩ x (retQ rs r) (start args)) : Ctr P f args r := by
  refine Ctr.of_O (CtrO.of_Y (CtrY.of_AW hf hb hcall hc hrs hn (fun m hm => by simp [isIn, lookO] at hm) fun w D E => ?_))
  exact (h w D E).mono fun e B hq => retO_of_Q hq
end Go.Abs

/-
  THE ABSTRACT LAYER, 15: states written as lists; the rules by which a run of abstract operations is reckoned. Over any program.
-/
namespace Go.Abs
open Go Go.RowKit
/-! ### a state with less in it -/
/-- These slots hold this. -/
def subT (ts : List (Nat × AV)) : List (Nat × AV) → Prop
  | [] => True
  | (k, v) :: r => look ts k = v ∧ subT ts r
def subO (os : List (Nat × AO)) : List (Nat × AO) → Prop
  | [] => True
  | (k, v) :: r => lookO os k = some v ∧ subO os r
def onlyT (p : Nat → Bool) : List (Nat × AV) → Prop
  | [] => True
  | (_, v) :: r => v.only p = true ∧ onlyT p r
theorem subT_get {ts : List (Nat × AV)} : ∀ {ts' : List (Nat × AV)}, subT ts ts' → ∀ k, look ts' k = .top ∨ look ts' k = look ts k
  | [], _, k => .inl rfl
  | (j, v) :: r, h, k => by
    simp only [subT] at h
    simp only [look]
    split
    · rename_i hk; subst hk; exact .inr h.1.symm
    · exact subT_get h.2 k
theorem subO_get {os : List (Nat × AO)} : ∀ {os' : List (Nat × AO)}, subO os os' → ∀ k, lookO os' k = none ∨ lookO os' k = lookO os k
  | [], _, k => .inl rfl
  | (j, v) :: r, h, k => by
    simp only [subO] at h
    simp only [lookO]
    split
    · rename_i hk; subst hk; exact .inr h.1.symm
    · exact subO_get h.2 k
theorem onlyT_get {p : Nat → Bool} : ∀ {ts : List (Nat × AV)}, onlyT p ts → ∀ k, (look ts k).only p = true
  | [], _, k => by simp [look, AV.only]
  | (j, v) :: r, h, k => by
    simp only [onlyT] at h
    simp only [look]
    split
    · exact h.1
    · exact onlyT_get h.2 k
theorem onlyO_get {p : Nat → Bool} : ∀ {os : List (Nat × AO)}, onlyO p os → ∀ k x, lookO os k = some x → x.only p = true
  | [], _, k, x, hx => by simp [lookO] at hx
  | (j, v) :: r, h, k, x, hx => by
    simp only [onlyO] at h
    simp only [lookO] at hx
    split at hx
    · simp only [Option.some.injEq] at hx; subst hx; exact h.1
    · exact onlyO_get h.2 k x hx
theorem Sub.of_lists {ts ts' : List (Nat × AV)} {os os' : List (Nat × AO)} (h1 : subT ts ts') (h2 : subO os os') (h3 : onlyT (isIn os') ts') (h4 : onlyO (isIn os') os') : Sub (mkA ts os) (mkA ts' os') := by
  rintro c a w ⟨D, E, hs⟩
  have hp : ∀ n, isIn os' n = true → (if isIn os' n then E n else none) = E n := fun n hn => by simp [hn]
  refine ⟨D, fun n => if isIn os' n then E n else none, hs.sz, hs.defs, fun t => ?_, hs.unch, hs.dom, hs.live, fun n => ?_, fun n m e e' b h1 h2 h3 h4 => ?_, fun n e hn hfx => ?_, hs.nam, hs.up, hs.yok⟩
  · have := subT_get h1 t
    rcases this with h | h
    · simp only [mkA]; rw [h]; simp [rv]
    · refine rv.restrict (p := isIn os') hp (onlyT_get h3 t) ?_
      have := hs.tm t
      simp only [mkA] at *
      rw [h]; exact this
  · have ho := hs.obj n
    simp only [mkA] at *
    rcases subO_get h2 n with h | h
    · rw [h]; simp [objOk, isIn, h]
    · rw [h]
      by_cases hin : lookO os n = none
      · rw [hin]; simp [objOk, isIn, h, hin]
      · have hE : (if isIn os' n then E n else none) = E n := hp n (by simp [isIn, h]; cases hh : lookO os n <;> simp_all)
        cases hx : lookO os n with
        | none => exact absurd hx hin
        | some x =>
          have hon := onlyO_get h4 n x (h.trans hx)
          rw [hx] at ho
          cases x with
          | box x =>
            obtain ⟨b, cs, T, k1, k2, k3, k4, k5⟩ := ho
            exact ⟨b, cs, T, hE.trans k1, k2, k3, rc.restrict hp _ _ (by simpa [AO.only] using hon) k4, k5⟩
          | row T sz es =>
            obtain ⟨blk, k1, k2, k3⟩ := ho
            refine ⟨blk, hE.trans k1, k2, ?_⟩
            cases blk with
            | none => exact k3
            | some bc =>
              obtain ⟨b, cap⟩ := bc
              obtain ⟨cs, pre, rest, q1, q2, q3, q4, q5⟩ := k3
              exact ⟨cs, pre, rest, q1, q2, q3, rcs.restrict hp _ _ (by simpa [AO.only] using hon) q4, q5⟩
          | opq x =>
            obtain ⟨b, k1, k2⟩ := ho
            exact ⟨b, hE.trans k1, k2⟩
  · refine hs.sep n m e e' b ?_ ?_ h3 h4
    · split at h1
      · exact h1
      · cases h1
    · split at h2
      · exact h2
      · cases h2
  · by_cases hi : isIn os' n = true
    · simp only [hi, if_true]; exact hs.hist n e hn hfx
    · simp only [hi]; exact .inl rfl
def idx : Nat → List AV → List (Nat × AV)
  | _, [] => []
  | k, a :: as => (k, a) :: idx (k + 1) as
theorem look_idx : ∀ (as : List AV) (k t : Nat), look (idx k as) t = if t < k then .top else (as[t - k]?).getD .top
  | [], k, t => by simp [idx, look]
  | a :: as, k, t => by
    simp only [idx, look, look_idx as (k + 1) t]
    by_cases h : t = k
    · subst h; simp
    · rw [if_neg h]
      by_cases h2 : t < k
      · rw [if_pos (by omega), if_pos h2]
      · rw [if_neg (by omega), if_neg h2, show t - k = (t - (k + 1)) + 1 from by omega]
        simp
theorem start_mkO (args : List AV) (os : List (Nat × AO)) : Sub (startO args os) (mkA (idx 0 args) os) := by
  rintro c a w ⟨D, E, hs⟩
  refine ⟨D, E, hs.sz, hs.defs, fun t => ?_, hs.unch, hs.dom, hs.live, hs.obj, hs.sep, hs.hist, hs.nam, hs.up, hs.yok⟩
  have := hs.tm t
  simp only [mkA, look_idx, startO, Nat.not_lt_zero, if_false, Nat.sub_zero] at *
  cases h : args[t]? with
  | none => simp [rv]
  | some x => simpa [List.getD_eq_getElem?_getD, h] using this
theorem start_mk (args : List AV) : Sub (start args) (mkA (idx 0 args) []) := start_mkO args []
/-! ### reckoning -/
theorem mkA_put (ts : List (Nat × AV)) (os : List (Nat × AO)) (d : Nat) (v : AV) : (mkA ts os).put d v = mkA ((d, v) :: ts) os := rfl
theorem mkA_putO (ts : List (Nat × AV)) (os : List (Nat × AO)) (d : Nat) (v : AV) : (mkA ts os).putO (some d) v = mkA ((d, v) :: ts) os := rfl
theorem mkA_putN (A : AState) (v : AV) : A.putO none v = A := rfl
theorem mkA_setO (ts : List (Nat × AV)) (os : List (Nat × AO)) (d : Nat) (x : AO) : (mkA ts os).setO d x = mkA ts ((d, x) :: os) := rfl
theorem mkA_t (ts : List (Nat × AV)) (os : List (Nat × AO)) (k : Nat) : (mkA ts os).t k = look ts k := rfl
theorem mkA_o (ts : List (Nat × AV)) (os : List (Nat × AO)) (k : Nat) : (mkA ts os).o k = lookO os k := rfl
theorem look_cons (j : Nat) (v : AV) (r : List (Nat × AV)) (k : Nat) : look ((j, v) :: r) k = if k = j then v else look r k := rfl
theorem lookO_cons (j : Nat) (v : AO) (r : List (Nat × AO)) (k : Nat) : lookO ((j, v) :: r) k = if k = j then some v else lookO r k := rfl
theorem lookO_nil (k : Nat) : lookO [] k = none := rfl
theorem ev_t (A : AState) (k : Nat) : ev A (.t k) = A.t k := rfl
theorem ev_c (A : AState) (x : AV) : ev A (.c x) = x := rfl
/-- What is done with a value once it is known. -/
noncomputable def kont (d : Option Nat) (rest : List G) (A : AState) (v : AV) : Res := aops rest (A.putO d v)
theorem kont_eq (d : Option Nat) (rest : List G) (A : AState) (v : AV) : kont d rest A v = aops rest (A.putO d v) := rfl
theorem bindR_some (v : AV) (k : AV → Res) : bindR (some v) k = k v := rfl
theorem aops_nil (A : AState) : aops [] A = .done A := rfl
/-- One operation, then the others. -/
noncomputable def opR (A : AState) (d : Option Nat) (op : AOp) (rest : List G) : Res := gStep A d op rest (aops rest)
/-- An operation that hangs on a Bool. -/
noncomputable def gdR (x : AV) (b : Bool) (d : Option Nat) (op : AOp) (rest : List G) (A : AState) : Res :=
  match x with
  | .bool b' => if b' = b then opR A d op rest else aops rest (A.putO d .undef)
  | .undef => aops rest (A.putO d .undef)
  | _ => .fail
theorem WP.guard {P : Program} {Y : Value → List AV → List (Nat × AO) → Post → Prop} {dr : Bool} {K : AState → Prop} {x b : Bool} {d : Option Nat} {op : AOp} {rest : List G} {A : AState} (h1 : x = b → WP P Y dr K (opR A d op rest)) (h2 : x = !b → WP P Y dr K (aops rest (A.putO d .undef))) : WP P Y dr K (gdR (.bool x) b d op rest A) := by
  unfold gdR
  by_cases h : x = b
  · simp only [if_pos h]; exact h1 h
  · simp only [if_neg h]; exact h2 (by cases x <;> cases b <;> simp_all)
def AV.flds : AV → Option (List AV)
  | .agg fs => some fs
  | _ => none
def atO (p : List Nat) : Option AV → Option AV
  | some f => f.at p
  | none => none
def atL (i : Nat) (p : List Nat) : Option (List AV) → Option AV
  | some fs => atO p fs[i]?
  | none => none
theorem at_nil (c : AV) : c.at [] = some c := by cases c <;> rfl
theorem at_cons (c : AV) (i : Nat) (p : List Nat) : c.at (i :: p) = atL i p c.flds := by
  cases c <;> first | rfl | (rename_i fs; simp only [AV.at, atL, AV.flds, atO])
def setO2 (fs : List AV) (i : Nat) (p : List Nat) (v : AV) : Option AV → AV
  | some f => .agg (fs.set i (f.setAt p v))
  | none => .agg fs
def setL (c : AV) (i : Nat) (p : List Nat) (v : AV) : Option (List AV) → AV
  | some fs => setO2 fs i p v fs[i]?
  | none => c
theorem setAt_nil (c v : AV) : c.setAt [] v = v := by cases c <;> rfl
theorem setAt_cons (c : AV) (i : Nat) (p : List Nat) (v : AV) : c.setAt (i :: p) v = setL c i p v c.flds := by
  cases c <;> first | rfl | (rename_i fs; simp only [AV.setAt, setL, AV.flds]; cases fs[i]? <;> rfl)
def derefP (p : List Nat) : Option AO → Option AV
  | some (.box c) => c.at p
  | _ => none
def derefE (A : AState) : AV → Option AV
  | .ref x => some x
  | .ptr n p => derefP p (A.o n)
  | _ => none
theorem deref_eq (A : AState) (x : AV) : deref A x = derefE A x := by
  cases x <;> first | rfl | (rename_i n p; simp only [deref, derefE]; cases A.o n with | none => rfl | some y => cases y <;> rfl)
def okL (s : Option Nat) (x : AV) : Option AV := if okLd s x = true then some x else none
def okLO (s : Option Nat) : Option AV → Option AV
  | some x => okL s x
  | none => none
open Classical in
noncomputable def offR (fs : List AV) (f off : Nat) (y : AV) : Option AV := if f < fs.length ∧ AV.sizes (fs.take f) = off then some y else none
noncomputable def faP (n : Nat) (p : List Nat) (f off : Nat) : Option (List AV) → Option AV
  | some fs => offR fs f off (.ptr n (p ++ [f]))
  | none => none
noncomputable def faO (fs : List AV) (f off : Nat) : Option AV → Option AV
  | some v => offR fs f off (.ref v)
  | none => none
noncomputable def faR (f off : Nat) : Option (List AV) → Option AV
  | some fs => faO fs f off fs[f]?
  | none => none
def fldsO : Option AV → Option (List AV)
  | some x => x.flds
  | none => none
noncomputable def faE (A : AState) (f off : Nat) : AV → Option AV
  | .ref c => faR f off c.flds
  | .ptr n p => faP n p f off (fldsO (derefP p (A.o n)))
  | _ => none
theorem pure_fa (A : AState) (f off : Nat) (x : AOpd) : pureOp A (.fa f off x) = faE A f off (ev A x) := by
  simp only [pureOp]
  generalize ev A x = y
  cases y with
  | ref c =>
    cases c <;> simp only [faE, AV.flds, faR]
    rename_i fs
    cases h : fs[f]? with
    | none => simp [faO]
    | some v =>
      have hl : f < fs.length := (List.getElem?_eq_some_iff.1 h).1
      simp only [faO, offR, hl, true_and]

  | ptr n p =>
    simp only [faE, deref_eq, derefE]
    cases derefP p (A.o n) with
    | none => simp [fldsO, faP]
    | some c =>
      cases c <;> simp only [fldsO, AV.flds, faP]
      simp only [offR]

  | _ => simp only [faE]
noncomputable def flE (f off : Nat) (s : Option Nat) : Option (List AV) → Option AV
  | some fs => match fs[f]? with
    | some v => (offR fs f off v).bind (okL s)
    | none => none
  | none => none
theorem pure_fl (A : AState) (f off : Nat) (s : Option Nat) (x : AOpd) : pureOp A (.fl f off s x) = flE f off s (ev A x).flds := by
  simp only [pureOp]
  generalize ev A x = y
  cases y <;> simp only [flE, AV.flds]
  rename_i fs
  cases h : fs[f]? with
  | none => rfl
  | some v =>
    have hl : f < fs.length := (List.getElem?_eq_some_iff.1 h).1
    simp only [offR, hl, true_and, okL]
    by_cases h1 : AV.sizes (fs.take f) = off <;> by_cases h2 : okLd s v = true <;> simp [h1, h2, okL]
open Classical in
noncomputable def inB (k : Int) (n : Nat) (y : Option AV) : Option AV := if 0 ≤ k ∧ k < n then y else none
noncomputable def iaF (n esz : Nat) (fs : List AV) (y : Option AV) : Option AV := if evenly n esz fs = true then y else none
noncomputable def iaR (n esz : Nat) (k : Int) : Option (List AV) → Option AV
  | some fs => iaF n esz fs ((fs[k.toNat]?).map .ref)
  | none => none
noncomputable def iaP (n esz m : Nat) (p : List Nat) (k : Int) : Option (List AV) → Option AV
  | some fs => iaF n esz fs (some (.ptr m (p ++ [k.toNat])))
  | none => none
noncomputable def iaE (A : AState) (n esz : Nat) (k : Int) : AV → Option AV
  | .ref c => inB k n (iaR n esz k c.flds)
  | .ptr m p => inB k n (iaP n esz m p k (fldsO (derefP p (A.o m))))
  | _ => none
noncomputable def iaI (A : AState) (n esz : Nat) (x : AV) : AV → Option AV
  | .int _ k => iaE A n esz k x
  | _ => none
theorem pure_ia (A : AState) (n esz : Nat) (x i : AOpd) : pureOp A (.ia n esz x i) = iaI A n esz (ev A x) (ev A i) := by
  simp only [pureOp]
  generalize ev A x = y
  generalize ev A i = z
  cases z <;> simp only [iaI]
  rename_i kk k
  cases y with
  | ref c =>
    simp only [iaE, inB]
    split
    · cases c <;> simp only [AV.flds, iaR, iaF]
    · rfl
  | ptr m p =>
    simp only [iaE, inB, deref_eq, derefE]
    split
    · cases derefP p (A.o m) with
      | none => simp [fldsO, iaP]
      | some c => cases c <;> simp only [fldsO, AV.flds, iaP, iaF]
    · rfl
  | _ => simp only [iaE]; split <;> rfl
open Classical in
noncomputable def isV (m : Nat) (p : List Nat) (sz lo l esz : Nat) (k : Int) : Option (List AV) → Option AV
  | some _ => if sz = esz ∧ 0 ≤ k ∧ k < l then some (.ptr m (p ++ [lo + k.toNat])) else none
  | none => none
open Classical in
noncomputable def isE (A : AState) (esz : Nat) (k : Int) : AV → Option AV
  | .slice sz es => if sz = esz ∧ 0 ≤ k ∧ k < es.length then (es[k.toNat]?).map .ref else none
  | .own m l => match A.o m with
    | some (.row _ sz es) => if l = es.length ∧ sz = esz ∧ 0 ≤ k ∧ k < es.length then (es[k.toNat]?).map .ref else none
    | _ => none
  | .view m p sz lo l => isV m p sz lo l esz k (fldsO (derefP p (A.o m)))
  | _ => none
noncomputable def isI (A : AState) (esz : Nat) (x : AV) : AV → Option AV
  | .int _ k => isE A esz k x
  | _ => none
theorem pure_is (A : AState) (esz : Nat) (x i : AOpd) : pureOp A (.is esz x i) = isI A esz (ev A x) (ev A i) := by
  simp only [pureOp]
  generalize ev A x = y
  generalize ev A i = z
  cases z <;> simp only [isI]
  cases y <;> simp only [isE]
  · split <;> simp_all
  · rename_i m p sz lo l
    simp only [deref_eq, derefE]
    cases derefP p (A.o m) with
    | none => rfl
    | some c => cases c <;> simp only [fldsO, AV.flds, isV]
noncomputable def ixE (n esz : Nat) (s : Option Nat) (k : Int) : Option (List AV) → Option AV
  | some fs => inB k n (iaF n esz fs (okLO s fs[k.toNat]?))
  | none => none
noncomputable def ixI (n esz : Nat) (s : Option Nat) (x : AV) : AV → Option AV
  | .int _ k => ixE n esz s k x.flds
  | _ => none
theorem pure_ix (A : AState) (n esz : Nat) (s : Option Nat) (x i : AOpd) : pureOp A (.ix n esz s x i) = ixI n esz s (ev A x) (ev A i) := by
  simp only [pureOp]
  generalize ev A x = y
  generalize ev A i = z
  cases z <;> simp only [ixI]
  rename_i kk k
  cases y <;> simp only [AV.flds, ixE]
  case agg fs =>
    simp only [inB, iaF]
    split
    · split
      · cases fs[k.toNat]? <;> rfl
      · rfl
    · rfl
  all_goals (split <;> rfl)
def lenE (A : AState) : AV → Option AV
  | .slice _ es => some (.int .i64 es.length)
  | .nils _ => some (.int .i64 0)
  | .c0 _ => some (.int .i64 0)
  | .own m l => match A.o m with | some (.row _ _ es) => if l = es.length then some (.int .i64 es.length) else none | _ => none
  | .view _ _ _ _ k => some (.int .i64 k)
  | _ => none
theorem pure_len (A : AState) (x : AOpd) : pureOp A (.len x) = lenE A (ev A x) := by
  simp only [pureOp]
  generalize ev A x = y
  cases y <;> rfl
open Classical in
noncomputable def vaF (n esz : Nat) (fs : List AV) (y : AV) : Option AV := if evenly n esz fs = true ∧ n ≤ maxLen ∧ n ≠ 0 then some y else none
noncomputable def vaP (n esz m : Nat) (p : List Nat) : Option (List AV) → Option AV
  | some fs => vaF n esz fs (.view m p esz 0 n)
  | none => none
noncomputable def vaR (n esz : Nat) : Option (List AV) → Option AV
  | some fs => vaF n esz fs (.slice esz fs)
  | none => none
noncomputable def vaE (A : AState) (n esz : Nat) : AV → Option AV
  | .ptr m p => vaP n esz m p (fldsO (derefP p (A.o m)))
  | .ref c => vaR n esz c.flds
  | _ => none
theorem pure_va (A : AState) (n esz : Nat) (x : AOpd) : pureOp A (.va n esz x) = vaE A n esz (ev A x) := by
  simp only [pureOp]
  generalize ev A x = y
  cases y with
  | ptr m p =>
    simp only [vaE, deref_eq, derefE]
    cases derefP p (A.o m) with
    | none => simp [fldsO, vaP]
    | some c => cases c <;> simp only [fldsO, AV.flds, vaP, vaF] <;> (split <;> simp_all)
  | ref c => cases c <;> simp only [vaE, AV.flds, vaR, vaF] <;> (split <;> simp_all)
  | _ => simp only [vaE]
theorem pure_ld (A : AState) (s : Option Nat) (x : AOpd) : pureOp A (.ld s x) = okLO s (derefE A (ev A x)) := by
  simp only [pureOp, deref_eq]
  cases derefE A (ev A x) <;> simp only [okLO, okL]
noncomputable def pickR (A : AState) (d : Option Nat) (a b : AOpd) (rest : List G) : AV → Res
  | .bool t => aops rest (A.putO d (if t then ev A a else ev A b))
  | _ => .fail
noncomputable def unE (op : UnOp) (x : AV) : Option AV := match op, x with
    | .not, .bool b => some (.bool !b)
    | .neg, .int k n => some (.int k (k.wrap (0 - n)))
    | .xor, .int k n => some (.int k (cplI k n))
    | _, _ => none
def extE (i : Nat) : AV → Option AV
  | .tuple fs => fs[i]?
  | _ => none
def convE (k : IntKind) : AV → Option AV
  | .int _ n => some (.int k (k.wrap n))
  | _ => none
noncomputable def allocR (A : AState) (d : Nat) (z : AV) (rest : List G) : Option AO → Res
  | none => aops rest ((A.setO d (.box z)).put d (.ptr d []))
  | some _ => .fail
noncomputable def boxR2 (A : AState) (d : Nat) (z : AV) (rest : List G) (v : Bool) : Res := if v = true then aops rest ((A.setO d (.box z)).put d (.ptr d [])) else .fail
noncomputable def boxR (A : AState) (d : Nat) (z : AV) (rest : List G) : Option AO → Res
  | none => boxR2 A d z rest z.isVal
  | some _ => .fail
open Classical in
noncomputable def stR3 (A : AState) (s : Option Nat) (n : Nat) (p : List Nat) (b v : AV) (rest : List G) : Option AV → Res
  | some old => if okSt s v old then aops rest (A.setO n (.box (b.setAt p v))) else .fail
  | none => .fail
noncomputable def stR2 (A : AState) (s : Option Nat) (n : Nat) (p : List Nat) (v : AV) (rest : List G) : Option AO → Res
  | some (.box b) => stR3 A s n p b v rest (b.at p)
  | _ => .fail
noncomputable def stR (A : AState) (s : Option Nat) (v : AV) (rest : List G) : AV → Res
  | .ptr n p => stR2 A s n p v rest (A.o n)
  | _ => .fail
noncomputable def callvR (A : AState) (d : Option Nat) (args : List AV) (rest : List G) : AV → Res
  | .func f caps => .call f (args ++ caps) (fins true A (args ++ caps)) (fins false A (args ++ caps)) d rest A
  | .raw v => .callr v args d rest A
  | _ => .fail
section
variable (d : Option Nat) (rest : List G) (A : AState)
theorem a_none (op : AOp) : aops (⟨d, op, none⟩ :: rest) A = opR A d op rest := rfl
theorem a_some (op : AOp) (t : Nat) (b : Bool) : aops (⟨d, op, some (t, b)⟩ :: rest) A = gdR (A.t t) b d op rest A := rfl
theorem gd_tt (op : AOp) : gdR (.bool true) true d op rest A = opR A d op rest := by simp [gdR]
theorem gd_ff (op : AOp) : gdR (.bool false) false d op rest A = opR A d op rest := by simp [gdR]
theorem gd_tf (op : AOp) : gdR (.bool true) false d op rest A = aops rest (A.putO d .undef) := by simp [gdR]
theorem gd_ft (op : AOp) : gdR (.bool false) true d op rest A = aops rest (A.putO d .undef) := by simp [gdR]
theorem gd_u (op : AOp) (b : Bool) : gdR .undef b d op rest A = aops rest (A.putO d .undef) := rfl
theorem o_mv (x : AOpd) : opR A d (.mv x) rest = aops rest (A.putO d (ev A x)) := rfl
theorem o_pick (c a b : AOpd) : opR A d (.pick c a b) rest = pickR A d a b rest (ev A c) := by
  simp only [opR, gStep, pureOp]
  cases ev A c <;> simp only [bindR, pickR]
theorem o_bin (op : BinOp) (x y : AOpd) : opR A d (.bin op x y) rest = bindR (aBin op (ev A x) (ev A y)) (kont d rest A) := rfl
theorem o_eqv (ty : ETy) (neg : Bool) (x y : AOpd) : opR A d (.eqv ty neg x y) rest = bindR ((eqE ty (ev A x) (ev A y)).map fun b => .bool (if neg then !b else b)) (kont d rest A) := rfl
theorem o_un (op : UnOp) (x : AOpd) : opR A d (.un op x) rest = bindR (unE op (ev A x)) (kont d rest A) := rfl
theorem o_conv (k : IntKind) (x : AOpd) : opR A d (.conv k x) rest = bindR (convE k (ev A x)) (kont d rest A) := by
  simp only [opR, gStep, pureOp]; cases ev A x <;> rfl
theorem o_ld (s : Option Nat) (x : AOpd) : opR A d (.ld s x) rest = bindR (okLO s (derefE A (ev A x))) (kont d rest A) := by rw [← pure_ld]; rfl
theorem o_fa (f off : Nat) (x : AOpd) : opR A d (.fa f off x) rest = bindR (faE A f off (ev A x)) (kont d rest A) := by rw [← pure_fa]; rfl
theorem o_fl (f off : Nat) (s : Option Nat) (x : AOpd) : opR A d (.fl f off s x) rest = bindR (flE f off s (ev A x).flds) (kont d rest A) := by rw [← pure_fl]; rfl
theorem o_ia (n esz : Nat) (x i : AOpd) : opR A d (.ia n esz x i) rest = bindR (iaI A n esz (ev A x) (ev A i)) (kont d rest A) := by rw [← pure_ia]; rfl
theorem o_is (esz : Nat) (x i : AOpd) : opR A d (.is esz x i) rest = bindR (isI A esz (ev A x) (ev A i)) (kont d rest A) := by rw [← pure_is]; rfl
theorem o_ix (n esz : Nat) (s : Option Nat) (x i : AOpd) : opR A d (.ix n esz s x i) rest = bindR (ixI n esz s (ev A x) (ev A i)) (kont d rest A) := by rw [← pure_ix]; rfl
theorem o_len (x : AOpd) : opR A d (.len x) rest = bindR (lenE A (ev A x)) (kont d rest A) := by rw [← pure_len]; rfl
theorem o_va (n esz : Nat) (x : AOpd) : opR A d (.va n esz x) rest = bindR (vaE A n esz (ev A x)) (kont d rest A) := by rw [← pure_va]; rfl
theorem o_bld (zs : List AV) (ps : List (Nat × AOpd)) : opR A d (.bld zs ps) rest = bindR ((setParts zs (ps.map fun p => (p.1, ev A p.2))).map .agg) (kont d rest A) := rfl
theorem o_ext (x : AOpd) (i : Nat) : opR A d (.ext x i) rest = bindR (extE i (ev A x)) (kont d rest A) := by
  simp only [opR, gStep, pureOp]; cases ev A x <;> rfl
theorem o_mk (f : FuncId) (caps : List AOpd) : opR A d (.mk f caps) rest = bindR (if ((caps.map (ev A)).all fun y => y.isVal) = true then some (.func f (caps.map (ev A))) else none) (kont d rest A) := rfl
theorem o_alloc (d : Nat) (z : AV) : opR A (some d) (.alloc z) rest = allocR A d z rest (A.o d) := by
  simp only [opR, gStep]; cases A.o d <;> rfl
theorem o_box (d : Nat) (x : AOpd) : opR A (some d) (.box x) rest = boxR A d (ev A x) rest (A.o d) := by
  simp only [opR, gStep]; cases A.o d <;> simp only [boxR, boxR2]
theorem o_st (s : Option Nat) (x v : AOpd) : opR A none (.st s x v) rest = stR A s (ev A v) rest (ev A x) := by
  simp only [opR, gStep]
  cases ev A x <;> simp only [stR]
  rename_i n p
  cases A.o n with
  | none => rfl
  | some y =>
    cases y <;> simp only [stR2]
    rename_i b
    cases b.at p <;> simp only [stR3]
theorem o_call (f : FuncId) (args : List AOpd) : opR A d (.call f args) rest = .call f (args.map (ev A)) (fins true A (args.map (ev A))) (fins false A (args.map (ev A))) d rest A := rfl
theorem o_callv (x : AOpd) (args : List AOpd) : opR A d (.callv x args) rest = callvR A d (args.map (ev A)) rest (ev A x) := by
  simp only [opR, gStep]; cases ev A x <;> rfl
end
end Go.Abs

/-
  THE ABSTRACT LAYER, 16: data types told as abstract values; the rules for reckoning in bundles. Over any program.
-/
namespace Go.Abs
open Go Go.RowKit
mutual
/-- Closed, and as a result is told: no nil slice but as the empty one. -/
def AV.done : AV → Bool
  | .agg fs => AV.dones fs
  | .slice _ es => AV.closeds es
  | .ref x => x.closed
  | .func _ caps => AV.dones caps
  | .iface _ v => v.closed
  | .bool _ | .int _ _ | .str _ | .nilp | .nilf | .nili | .raw _ => true
  | _ => false
def AV.dones : List AV → Bool
  | [] => true
  | x :: xs => x.done && AV.dones xs
end
mutual
theorem done_closed : ∀ x : AV, x.done = true → x.closed = true
  | .agg fs, h => by simp only [AV.done, AV.closed] at *; exact dones_closed fs h
  | .slice _ es, h => by simpa only [AV.done, AV.closed] using h
  | .ref x, h => by simpa only [AV.done, AV.closed] using h
  | .func _ caps, h => by simp only [AV.done, AV.closed] at *; exact dones_closed caps h
  | .iface _ v, h => by simpa only [AV.done, AV.closed] using h
  | .bool _, _ | .int _ _, _ | .str _, _ | .nilp, _ | .nilf, _ | .nili, _ | .raw _, _ => by simp [AV.closed]
  | .nils _, h | .c0 _, h | .ptr _ _, h | .own _ _, h | .view _ _ _ _ _, h | .undef, h | .top, h | .tuple _, h => by simp [AV.done] at h
theorem dones_closed : ∀ xs : List AV, AV.dones xs = true → AV.closeds xs = true
  | [], _ => rfl
  | x :: xs, h => by
    simp only [AV.dones, AV.closeds, Bool.and_eq_true] at *
    exact ⟨done_closed x h.1, dones_closed xs h.2⟩
end
mutual
theorem fin_done (bx : Bool) (A : AState) : ∀ x : AV, x.done = true → fin bx A x = some x
  | .agg fs, h => by simp only [AV.done, fin] at *; rw [fins_dones bx A fs h]; rfl
  | .slice _ es, h => by simp only [AV.done] at h; simp [fin, h]
  | .ref x, h => by simp only [AV.done] at h; simp [fin, h]
  | .func _ caps, h => by simp only [AV.done, fin] at *; rw [fins_dones bx A caps h]; rfl
  | .iface _ v, h => by simp only [AV.done] at h; simp [fin, h]
  | .bool _, _ | .int _ _, _ | .str _, _ | .nilp, _ | .nilf, _ | .nili, _ | .raw _, _ => by simp [fin]
  | .nils _, h | .c0 _, h | .ptr _ _, h | .own _ _, h | .view _ _ _ _ _, h | .undef, h | .top, h | .tuple _, h => by simp [AV.done] at h
theorem fins_dones (bx : Bool) (A : AState) : ∀ xs : List AV, AV.dones xs = true → fins bx A xs = some xs
  | [], _ => by simp [fins]
  | x :: xs, h => by
    simp only [AV.dones, Bool.and_eq_true] at h
    simp only [fins, fin_done bx A x h.1, fins_dones bx A xs h.2]
end
theorem done_isVal {x : AV} (h : x.done = true) : x.isVal = true := by cases x <;> simp_all [AV.done, AV.isVal]
class Enc (α : Type) where
  enc : α → AV
  sz : Nat
  sh : Sh
  isA : Bool
  done : ∀ x, (enc x).done = true
  size : ∀ x, (enc x).size = sz
  shp : ∀ x, (enc x).sh = sh
  agg : ∀ x, (enc x).isAgg = isA
open Enc (enc)
instance : Enc Int where
  enc n := .int .i64 n
  sz := 1
  sh := .one
  isA := false
  done _ := rfl
  size _ := by simp [AV.size]
  shp _ := by simp [AV.sh]
  agg _ := rfl
instance : Enc Bool where
  enc b := .bool b
  sz := 1
  sh := .one
  isA := false
  done _ := rfl
  size _ := by simp [AV.size]
  shp _ := by simp [AV.sh]
  agg _ := rfl
theorem closeds_map {α : Type} [Enc α] (l : List α) : AV.closeds (l.map enc) = true := by
  induction l with
  | nil => rfl
  | cons x l ih => simp only [List.map_cons, AV.closeds, done_closed _ (Enc.done x), ih, Bool.and_self]
theorem dones_map {α : Type} [Enc α] (l : List α) : AV.dones (l.map enc) = true := by
  induction l with
  | nil => rfl
  | cons x l ih => simp only [List.map_cons, AV.dones, Enc.done x, ih, Bool.and_self]
theorem sizes_map {α : Type} [Enc α] (l : List α) : AV.sizes (l.map enc) = l.length * Enc.sz α := by
  rw [AV.sizes_const (sz := Enc.sz α) _ (by simp only [List.mem_map]; rintro x ⟨y, _, rfl⟩; exact Enc.size y)]
  simp
theorem shs_map {α : Type} [Enc α] (l : List α) : AV.shs (l.map enc) = List.replicate l.length (Enc.sh α) := by
  induction l with
  | nil => rfl
  | cons x l ih => simp only [List.map_cons, AV.shs, Enc.shp x, ih, List.length_cons, List.replicate_succ]
instance {α : Type} [Enc α] : Enc (List α) where
  enc l := .slice (Enc.sz α) (l.map enc)
  sz := 1
  sh := .one
  isA := false
  done l := by simp only [AV.done]; exact closeds_map l
  size _ := by simp [AV.size]
  shp _ := by simp [AV.sh]
  agg _ := rfl
/-- An array of n. -/
structure Arr (n : Nat) (α : Type) where
  l : List α
  h : l.length = n
instance {n : Nat} {α : Type} [Enc α] : Enc (Arr n α) where
  enc x := .agg (x.l.map enc)
  sz := n * Enc.sz α
  sh := .many (List.replicate n (Enc.sh α))
  isA := true
  done x := by simp only [AV.done]; exact dones_map x.l
  size x := by simp only [AV.size, sizes_map, x.h]
  shp x := by simp only [AV.sh, shs_map, x.h]
  agg _ := rfl
section
variable {α : Type} [Enc α]
theorem e_fin (bx : Bool) (A : AState) (x : α) : fin bx A (enc x) = some (enc x) := fin_done bx A _ (Enc.done x)
theorem e_closed (x : α) : (enc x).closed = true := done_closed _ (Enc.done x)
theorem e_only (p : Nat → Bool) (x : α) : (enc x).only p = true := only_closed p _ (e_closed x)
theorem e_isVal (x : α) : (enc x).isVal = true := done_isVal (Enc.done x)
theorem e_okN (x : α) : okLd none (enc x) = !(Enc.isA α) := by simp [okLd, Enc.agg]
theorem e_okS (n : Nat) (x : α) : okLd (some n) (enc x) = (Enc.isA α && Enc.sz α == n) := by simp [okLd, Enc.agg, Enc.size]
theorem e_size (x : α) : (enc x).size = Enc.sz α := Enc.size x
theorem e_sh (x : α) : (enc x).sh = Enc.sh α := Enc.shp x
theorem e_int (n : Int) : (enc n : AV) = .int .i64 n := rfl
theorem e_bool (n : Bool) : (enc n : AV) = .bool n := rfl
theorem e_list (l : List α) : (enc l : AV) = .slice (Enc.sz α) (l.map enc) := rfl
theorem e_szInt : Enc.sz Int = 1 := rfl
theorem e_szArr (n : Nat) : Enc.sz (Arr n α) = n * Enc.sz α := rfl
theorem e_szList : Enc.sz (List α) = 1 := rfl
theorem e_isAArr (n : Nat) : Enc.isA (Arr n α) = true := rfl
theorem e_isAList : Enc.isA (List α) = false := rfl
theorem e_shInt : Enc.sh Int = .one := rfl
theorem e_shList : Enc.sh (List α) = .one := rfl
theorem e_shArr (n : Nat) : Enc.sh (Arr n α) = .many (List.replicate n (Enc.sh α)) := rfl
theorem evenly_map (n esz : Nat) (l : List α) (h : l.length = n) (h2 : Enc.sz α = esz) : evenly n esz (l.map enc) = true := by
  simp only [evenly, List.length_map, h, BEq.rfl, Bool.true_and, List.all_eq_true, List.mem_map]
  rintro x ⟨y, _, rfl⟩
  simp [Enc.size, h2]
theorem all_sizes (l : List α) : ∀ x ∈ l.map (enc (α := α)), x.size = Enc.sz α := by
  simp only [List.mem_map]; rintro x ⟨y, _, rfl⟩; exact Enc.size y
end
theorem wrap_id (n : Int) (h1 : -9223372036854775808 ≤ n) (h2 : n ≤ 9223372036854775807) : IntKind.i64.wrap n = n := IntWalk.i64_in n ⟨h1, h2⟩
/-- From the code, as read, to the contract. -/
theorem Ctr.mk {P : Program} {f : FuncId} {fn : Func} {x : AC} {rs : List RV} {args : List AV} {r : AV} (hf : P.funcs[f]? = some fn) (hcall : callable P f = true) (hc : (fn.body.bind (cCode P fn.ntmps)) = some x)
    (hrs : cRes P fn.results.toList = some rs) (hn : args.length ≤ fn.ntmps) (h : ∀ (w : World) (D : Dom) (E : Env), AW ⟨P, w, D, fn.ntmps, ownE E, E, noY, none⟩ x (retQ rs r) (mkA (idx 0 args) [])) : Ctr P f args r := by
  obtain ⟨body, hb, hc'⟩ := Option.bind_eq_some_iff.1 hc
  exact Ctr.of_AW hf hb hcall hc' hrs hn (fun w D E => (h w D E).sub (start_mk args))
end Go.Abs

