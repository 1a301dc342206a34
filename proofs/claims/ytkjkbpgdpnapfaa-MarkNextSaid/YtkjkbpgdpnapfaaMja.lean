/-
  THE ABSTRACT LAYER, 1: pure abstract values, what it means that memory holds them, abstract states, and that a concrete frame and world fit one. Over any program. No program text.
-/
import Derived.Orders
import Derived.Still
import Derived.WalkKit
import Derived.RangeFuncLeaves
import Derived.RangeFuncOwn
import Derived.RangeFuncSeq
import Derived.Great.BuildSlice
import Derived.Great.FillDense
import Derived.ChangeKeysEq
import Derived.Laws.AppendOwn
set_option linter.unusedSimpArgs false
set_option linter.unusedVariables false
namespace Go.Abs
open Go
/-- Abstract values: pure data. 'ptr', 'own', 'view' name objects of the frame's own; all others stand for themselves. -/
inductive AV where
  | undef | top
  | bool (b : Bool)
  | int (k : IntKind) (n : Int)
  | str (s : ByteArray)
  | nilp | nilf | nili
  | raw (v : Value)
  | nils (sz : Nat)
  | c0 (sz : Nat)
  | slice (sz : Nat) (es : List AV)
  | agg (fs : List AV)
  | tuple (fs : List AV)
  | ref (c : AV)
  | func (f : FuncId) (caps : List AV)
  | iface (t : TypeId) (v : AV)
  | ptr (n : Nat) (p : List Nat)
  | own (n : Nat) (k : Nat)
  | view (n : Nat) (p : List Nat) (sz lo k : Nat)
  deriving Inhabited
/-- Shapes: how the cells of a value nest. -/
inductive Sh where
  | one
  | many (l : List Sh)
  deriving Inhabited
mutual
def Sh.size : Sh → Nat
  | .one => 1
  | .many l => Sh.sizes l
def Sh.sizes : List Sh → Nat
  | [] => 0
  | s :: l => s.size + Sh.sizes l
end
mutual
def AV.sh : AV → Sh
  | .agg fs => .many (AV.shs fs)
  | _ => .one
def AV.shs : List AV → List Sh
  | [] => []
  | f :: fs => f.sh :: AV.shs fs
end
mutual
def AV.size : AV → Nat
  | .agg fs => AV.sizes fs
  | _ => 1
def AV.sizes : List AV → Nat
  | [] => 0
  | f :: fs => f.size + AV.sizes fs
end
def AV.isAgg : AV → Bool
  | .agg _ => true
  | _ => false
/-- The offset of a path in a shape. -/
def Sh.off : Sh → List Nat → Option Nat
  | _, [] => some 0
  | .one, _ :: _ => none
  | .many l, i :: p => match l[i]? with
    | some s => (s.off p).map (Sh.sizes (l.take i) + ·)
    | none => none
def Sh.part : Sh → List Nat → Option Sh
  | s, [] => some s
  | .one, _ :: _ => none
  | .many l, i :: p => match l[i]? with
    | some s => s.part p
    | none => none
/-- The part at a path. -/
def AV.at : AV → List Nat → Option AV
  | c, [] => some c
  | .agg fs, i :: p => match fs[i]? with
    | some f => f.at p
    | none => none
  | _, _ :: _ => none
/-- The value with another part at a path. -/
def AV.setAt : AV → List Nat → AV → AV
  | _, [], v => v
  | .agg fs, i :: p, v => match fs[i]? with
    | some f => .agg (fs.set i (f.setAt p v))
    | none => .agg fs
  | c, _ :: _, _ => c
inductive Ent where
  | bx (b : Nat) (sh : Sh)
  | rw (blk : Option (Nat × Nat)) (len : Nat)
  | op (b : Nat)
/-- Where an object lies stays so. -/
def Ent.fix : Ent → Bool
  | .rw _ _ => false
  | _ => true
abbrev Dom := Nat → Nat → Prop
abbrev Env := Nat → Option Ent
/-- The cells of block b from off on are these, and may be read for good. -/
def reads (w : World) (D : Dom) (b off : Nat) (cs : List Value) : Prop :=
  ∀ j v, cs[j]? = some v → w.cell? ⟨b, off + j, none⟩ = some v ∧ D b (off + j)
def isPack (e : AV) (v : Value) (cs : List Value) : Prop := if e.isAgg then v = .agg cs.toArray else cs = [v]
mutual
/-- These cells hold this value. -/
def rc (w : World) (D : Dom) (E : Env) : AV → List Value → Prop
  | .agg fs, cs => rcs w D E fs cs
  | .bool b, cs => cs = [.bool b]
  | .int k n, cs => cs = [.int k n] ∧ k.min ≤ n ∧ n ≤ k.max
  | .str s, cs => cs = [.string s] ∧ s.size ≤ maxLen
  | .nilp, cs => cs = [.pointer none]
  | .nilf, cs => cs = [.nilFunc]
  | .nili, cs => cs = [.nilIface]
  | .raw u, cs => cs = [u] ∧ u.oneCell' = true
  | .nils _, cs => cs = [.slice none 0 0]
  | .c0 _, cs => ∃ a, cs = [.slice a 0 0]
  | .slice sz es, cs => ∃ a cap, cs = [.slice a es.length cap] ∧ es.length ≤ cap ∧ cap ≤ maxLen ∧
      (es = [] ∨ ∃ b off cs', a = some ⟨b, off, none⟩ ∧ reads w D b off cs' ∧ rcs w D E es cs') ∧ ∀ e ∈ es, e.size = sz
  | .ref c, cs => ∃ b off cs', cs = [.pointer (some ⟨b, off, none⟩)] ∧ reads w D b off cs' ∧ rc w D E c cs'
  | .func f caps, cs => ∃ vs : List Value, cs = [.func (.func f) #[] vs.toArray] ∧ rvs w D E caps vs
  | .iface t v, cs => ∃ u cs', cs = [.iface t u] ∧ isPack v u cs' ∧ rc w D E v cs'
  | .ptr n p, cs => ∃ b sh off, E n = some (.bx b sh) ∧ sh.off p = some off ∧ cs = [.pointer (some ⟨b, off, none⟩)]
  | .own n k, cs => ∃ blk l, E n = some (.rw blk l) ∧ k ≤ l ∧ (∃ a m c, cs = [.slice a m c]) ∧
      (k = l → match blk with | none => cs = [.slice none 0 0] | some (b, cap) => cs = [.slice (some ⟨b, 0, none⟩) k cap])
  | .view n p sz lo k, cs => ∃ b sh off l, E n = some (.bx b sh) ∧ sh.off p = some off ∧ sh.part p = some (.many l) ∧ cs = [.slice (some ⟨b, off + lo * sz, none⟩) k (l.length - lo)] ∧ l.length ≤ maxLen ∧ lo + k ≤ l.length ∧ ∀ s ∈ l, s.size = sz
  | .undef, _ | .top, _ | .tuple _, _ => False
def rcs (w : World) (D : Dom) (E : Env) : List AV → List Value → Prop
  | [], cs => cs = []
  | e :: es, cs => ∃ c1 c2, cs = c1 ++ c2 ∧ rc w D E e c1 ∧ rcs w D E es c2
def rvs (w : World) (D : Dom) (E : Env) : List AV → List Value → Prop
  | [], vs => vs = []
  | e :: es, vs => ∃ v rest cs, vs = v :: rest ∧ isPack e v cs ∧ rc w D E e cs ∧ rvs w D E es rest
end
/-- This value is this abstract value. -/
def rv (w : World) (D : Dom) (E : Env) (x : AV) (v : Value) : Prop :=
  match x with
  | .undef => v = undef
  | .top => True
  | .tuple fs => ∃ vs : List Value, v = .tuple vs.toArray ∧ rvs w D E fs vs
  | x => ∃ cs, isPack x v cs ∧ rc w D E x cs
/-- What may be told of a later world. -/
structure Later (w : World) (D : Dom) (E : Env) (w' : World) (D' : Dom) (E' : Env) : Prop where
  dom : ∀ b o, D b o → D' b o
  cell : ∀ b o v, D b o → w.cell? ⟨b, o, none⟩ = some v → w'.cell? ⟨b, o, none⟩ = some v
  bx : ∀ n b sh, E n = some (.bx b sh) → E' n = some (.bx b sh)
  rw : ∀ n blk l, E n = some (.rw blk l) → ∃ blk' l', E' n = some (.rw blk' l') ∧ l ≤ l' ∧ (l' = l → blk' = blk)
theorem Later.refl (w : World) (D : Dom) (E : Env) : Later w D E w D E :=
  ⟨fun _ _ h => h, fun _ _ _ _ h => h, fun _ _ _ h => h, fun _ blk l h => ⟨blk, l, h, Nat.le_refl _, fun _ => rfl⟩⟩
theorem reads.later {w w' : World} {D D' : Dom} {E E' : Env} (h : Later w D E w' D' E') {b off : Nat} {cs : List Value} (hr : reads w D b off cs) : reads w' D' b off cs :=
  fun j v hj => ⟨h.cell _ _ _ (hr j v hj).2 (hr j v hj).1, h.dom _ _ (hr j v hj).2⟩
mutual
theorem rc.later {w w' : World} {D D' : Dom} {E E' : Env} (h : Later w D E w' D' E') : ∀ (x : AV) (cs : List Value), rc w D E x cs → rc w' D' E' x cs
  | .agg fs, cs, hr => by simp only [rc] at *; exact rcs.later h fs cs hr
  | .bool b, cs, hr => by simpa only [rc] using hr
  | .int k n, cs, hr => by simpa only [rc] using hr
  | .str s, cs, hr => by simpa only [rc] using hr
  | .nilp, cs, hr => by simpa only [rc] using hr
  | .nilf, cs, hr => by simpa only [rc] using hr
  | .nili, cs, hr => by simpa only [rc] using hr
  | .raw _, cs, hr => by simpa only [rc] using hr
  | .nils _, cs, hr => by simpa only [rc] using hr
  | .c0 _, cs, hr => by simpa only [rc] using hr
  | .slice sz es, cs, hr => by
    simp only [rc] at *
    obtain ⟨a, cap, h1, h2, h3, h4, h5⟩ := hr
    refine ⟨a, cap, h1, h2, h3, ?_, h5⟩
    rcases h4 with h4 | ⟨b, off, cs', h6, h7, h8⟩
    · exact .inl h4
    · exact .inr ⟨b, off, cs', h6, h7.later h, rcs.later h es cs' h8⟩
  | .ref c, cs, hr => by
    simp only [rc] at *
    obtain ⟨b, off, cs', h1, h2, h3⟩ := hr
    exact ⟨b, off, cs', h1, h2.later h, rc.later h c cs' h3⟩
  | .func f caps, cs, hr => by
    simp only [rc] at *
    obtain ⟨vs, h1, h2⟩ := hr
    exact ⟨vs, h1, rvs.later h caps vs h2⟩
  | .iface t v, cs, hr => by
    simp only [rc] at *
    obtain ⟨u, cs', h1, h2, h3⟩ := hr
    exact ⟨u, cs', h1, h2, rc.later h v cs' h3⟩
  | .ptr n p, cs, hr => by
    simp only [rc] at *
    obtain ⟨b, sh, off, h1, h2, h3⟩ := hr
    exact ⟨b, sh, off, h.bx _ _ _ h1, h2, h3⟩
  | .own n k, cs, hr => by
    simp only [rc] at *
    obtain ⟨blk, l, h1, h2, h3, h4⟩ := hr
    obtain ⟨blk', l', h5, h6, h7⟩ := h.rw _ _ _ h1
    refine ⟨blk', l', h5, Nat.le_trans h2 h6, h3, fun e => ?_⟩
    have e1 : l' = l := by omega
    rw [h7 e1]
    exact h4 (by omega)
  | .view n p _ _ _, cs, hr => by
    simp only [rc] at *
    obtain ⟨b, sh, off, l, h1, h2⟩ := hr
    exact ⟨b, sh, off, l, h.bx _ _ _ h1, h2⟩
  | .undef, _, hr => by simp only [rc] at hr
  | .top, _, hr => by simp only [rc] at hr
  | .tuple _, _, hr => by simp only [rc] at hr
theorem rcs.later {w w' : World} {D D' : Dom} {E E' : Env} (h : Later w D E w' D' E') : ∀ (xs : List AV) (cs : List Value), rcs w D E xs cs → rcs w' D' E' xs cs
  | [], cs, hr => by simpa only [rcs] using hr
  | x :: xs, cs, hr => by
    simp only [rcs] at *
    obtain ⟨c1, c2, h1, h2, h3⟩ := hr
    exact ⟨c1, c2, h1, rc.later h x c1 h2, rcs.later h xs c2 h3⟩
theorem rvs.later {w w' : World} {D D' : Dom} {E E' : Env} (h : Later w D E w' D' E') : ∀ (xs : List AV) (vs : List Value), rvs w D E xs vs → rvs w' D' E' xs vs
  | [], vs, hr => by simpa only [rvs] using hr
  | x :: xs, vs, hr => by
    simp only [rvs] at *
    obtain ⟨v, rest, cs, h1, h2, h3, h4⟩ := hr
    exact ⟨v, rest, cs, h1, h2, rc.later h x cs h3, rvs.later h xs rest h4⟩
end
theorem rv.later {w w' : World} {D D' : Dom} {E E' : Env} (h : Later w D E w' D' E') {x : AV} {v : Value} (hr : rv w D E x v) : rv w' D' E' x v := by
  cases x <;> simp only [rv] at * <;> first
    | exact hr
    | (obtain ⟨vs, h1, h2⟩ := hr; exact ⟨vs, h1, rvs.later h _ _ h2⟩)
    | (obtain ⟨cs, h1, h2⟩ := hr; exact ⟨cs, h1, rc.later h _ _ h2⟩)
/-! ### sizes -/
mutual
theorem AV.sh_size : ∀ x : AV, x.sh.size = x.size
  | .agg fs => by simp only [AV.sh, AV.size, Sh.size]; exact AV.shs_sizes fs
  | .undef | .top | .bool _ | .int _ _ | .str _ | .nilp | .nilf | .nili | .raw _ | .nils _ | .c0 _ | .slice _ _ | .tuple _ | .ref _ | .func _ _ | .iface _ _ | .ptr _ _ | .own _ _ | .view _ _ _ _ _ => by simp only [AV.sh, AV.size, Sh.size]
theorem AV.shs_sizes : ∀ xs : List AV, Sh.sizes (AV.shs xs) = AV.sizes xs
  | [] => by simp only [AV.shs, AV.sizes, Sh.sizes]
  | x :: xs => by simp only [AV.shs, AV.sizes, Sh.sizes]; rw [AV.sh_size x, AV.shs_sizes xs]
end
mutual
theorem rc.length {w : World} {D : Dom} {E : Env} : ∀ (x : AV) (cs : List Value), rc w D E x cs → cs.length = x.size
  | .agg fs, cs, hr => by simp only [rc, AV.size] at *; exact rcs.length fs cs hr
  | .bool b, cs, hr => by simp only [rc] at hr; simp [hr, AV.size]
  | .int k n, cs, hr => by simp only [rc] at hr; simp [hr.1, AV.size]
  | .str s, cs, hr => by simp only [rc] at hr; simp [hr.1, AV.size]
  | .nilp, cs, hr => by simp only [rc] at hr; simp [hr, AV.size]
  | .nilf, cs, hr => by simp only [rc] at hr; simp [hr, AV.size]
  | .nili, cs, hr => by simp only [rc] at hr; simp [hr, AV.size]
  | .raw u, cs, hr => by simp only [rc] at hr; simp [hr.1, AV.size]
  | .nils _, cs, hr => by simp only [rc] at hr; simp [hr, AV.size]
  | .c0 _, cs, hr => by simp only [rc] at hr; obtain ⟨a, rfl⟩ := hr; simp [AV.size]
  | .slice sz es, cs, hr => by simp only [rc] at hr; obtain ⟨a, cap, rfl, _⟩ := hr; simp [AV.size]
  | .ref c, cs, hr => by simp only [rc] at hr; obtain ⟨b, off, cs', rfl, _⟩ := hr; simp [AV.size]
  | .func f caps, cs, hr => by simp only [rc] at hr; obtain ⟨vs, rfl, _⟩ := hr; simp [AV.size]
  | .iface t v, cs, hr => by simp only [rc] at hr; obtain ⟨u, cs', rfl, _⟩ := hr; simp [AV.size]
  | .ptr n p, cs, hr => by simp only [rc] at hr; obtain ⟨b, sh, off, _, _, rfl⟩ := hr; simp [AV.size]
  | .own n k, cs, hr => by simp only [rc] at hr; obtain ⟨blk, l, _, _, ⟨a, m, c, rfl⟩, _⟩ := hr; simp [AV.size]
  | .view n p _ _ _, cs, hr => by simp only [rc] at hr; obtain ⟨b, sh, off, l, _, _, _, rfl, _⟩ := hr; simp [AV.size]
  | .undef, _, hr => by simp only [rc] at hr
  | .top, _, hr => by simp only [rc] at hr
  | .tuple _, _, hr => by simp only [rc] at hr
theorem rcs.length {w : World} {D : Dom} {E : Env} : ∀ (xs : List AV) (cs : List Value), rcs w D E xs cs → cs.length = AV.sizes xs
  | [], cs, hr => by simp only [rcs] at hr; simp [hr, AV.sizes]
  | x :: xs, cs, hr => by
    simp only [rcs] at hr
    obtain ⟨c1, c2, rfl, h1, h2⟩ := hr
    simp only [List.length_append, AV.sizes, rc.length x c1 h1, rcs.length xs c2 h2]
end
mutual
theorem rc.oneCell {w : World} {D : Dom} {E : Env} : ∀ (x : AV) (cs : List Value), rc w D E x cs → ∀ v ∈ cs, v.oneCell' = true
  | .agg fs, cs, hr => by simp only [rc] at hr; exact rcs.oneCell fs cs hr
  | .bool b, cs, hr => by simp only [rc] at hr; simp [hr, Value.oneCell']
  | .int k n, cs, hr => by simp only [rc] at hr; simp [hr.1, Value.oneCell']
  | .str s, cs, hr => by simp only [rc] at hr; simp [hr.1, Value.oneCell']
  | .nilp, cs, hr => by simp only [rc] at hr; simp [hr, Value.oneCell']
  | .nilf, cs, hr => by simp only [rc] at hr; simp [hr, Value.oneCell']
  | .nili, cs, hr => by simp only [rc] at hr; simp [hr, Value.oneCell']
  | .raw u, cs, hr => by simp only [rc] at hr; simpa [hr.1] using hr.2
  | .nils _, cs, hr => by simp only [rc] at hr; simp [hr, Value.oneCell']
  | .c0 _, cs, hr => by simp only [rc] at hr; obtain ⟨a, rfl⟩ := hr; simp [Value.oneCell']
  | .slice sz es, cs, hr => by simp only [rc] at hr; obtain ⟨a, cap, rfl, _⟩ := hr; simp [Value.oneCell']
  | .ref c, cs, hr => by simp only [rc] at hr; obtain ⟨b, off, cs', rfl, _⟩ := hr; simp [Value.oneCell']
  | .func f caps, cs, hr => by simp only [rc] at hr; obtain ⟨vs, rfl, _⟩ := hr; simp [Value.oneCell']
  | .iface t v, cs, hr => by simp only [rc] at hr; obtain ⟨u, cs', rfl, _⟩ := hr; simp [Value.oneCell']
  | .ptr n p, cs, hr => by simp only [rc] at hr; obtain ⟨b, sh, off, _, _, rfl⟩ := hr; simp [Value.oneCell']
  | .own n k, cs, hr => by simp only [rc] at hr; obtain ⟨blk, l, _, _, ⟨a, m, c, rfl⟩, _⟩ := hr; simp [Value.oneCell']
  | .view n p _ _ _, cs, hr => by simp only [rc] at hr; obtain ⟨b, sh, off, l, _, _, _, rfl, _⟩ := hr; simp [Value.oneCell']
  | .undef, _, hr => by simp only [rc] at hr
  | .top, _, hr => by simp only [rc] at hr
  | .tuple _, _, hr => by simp only [rc] at hr
theorem rcs.oneCell {w : World} {D : Dom} {E : Env} : ∀ (xs : List AV) (cs : List Value), rcs w D E xs cs → ∀ v ∈ cs, v.oneCell' = true
  | [], cs, hr => by simp only [rcs] at hr; simp [hr]
  | x :: xs, cs, hr => by
    simp only [rcs] at hr
    obtain ⟨c1, c2, rfl, h1, h2⟩ := hr
    intro v hv
    rcases List.mem_append.1 hv with h | h
    · exact rc.oneCell x c1 h1 v h
    · exact rcs.oneCell xs c2 h2 v h
end
/-- The value's own cells. -/
theorem isPack.cells {x : AV} {v : Value} {cs : List Value} {w : World} {D : Dom} {E : Env} (h : isPack x v cs) (hr : rc w D E x cs) : v.cells.toList = cs := by
  unfold isPack at h
  split at h
  · rw [h]; simp [Value.cells]
  · subst h
    have := rc.oneCell x _ hr v (by simp)
    cases v <;> simp [Value.cells, Value.oneCell'] at *
/-! ### parts of lists of cells -/
theorem rcs_split {w : World} {D : Dom} {E : Env} : ∀ (xs : List AV) (cs : List Value) (i : Nat) (x : AV), rcs w D E xs cs → xs[i]? = some x →
    ∃ c1 c2 c3, cs = c1 ++ c2 ++ c3 ∧ c1.length = AV.sizes (xs.take i) ∧ rcs w D E (xs.take i) c1 ∧ rc w D E x c2 ∧ rcs w D E (xs.drop (i + 1)) c3
  | [], _, i, x, _, h => by simp at h
  | y :: ys, cs, 0, x, hr, h => by
    simp only [List.getElem?_cons_zero, Option.some.injEq] at h
    subst h
    simp only [rcs] at hr
    obtain ⟨c1, c2, rfl, h1, h2⟩ := hr
    exact ⟨[], c1, c2, by simp, by simp [AV.sizes], by simp [rcs], h1, by simpa using h2⟩
  | y :: ys, cs, i + 1, x, hr, h => by
    simp only [List.getElem?_cons_succ] at h
    simp only [rcs] at hr
    obtain ⟨c0, c', rfl, h1, h2⟩ := hr
    obtain ⟨c1, c2, c3, rfl, h3, h4, h5, h6⟩ := rcs_split ys c' i x h2 h
    refine ⟨c0 ++ c1, c2, c3, by simp, ?_, ?_, h5, by simpa using h6⟩
    · simp only [List.length_append, List.take_succ_cons, AV.sizes, h3, rc.length y c0 h1]
    · simp only [List.take_succ_cons, rcs]
      exact ⟨c0, c1, rfl, h1, h4⟩
theorem rcs_append {w : World} {D : Dom} {E : Env} : ∀ (xs ys : List AV) (cs ds : List Value), rcs w D E xs cs → rcs w D E ys ds → rcs w D E (xs ++ ys) (cs ++ ds)
  | [], ys, cs, ds, h, k => by simp only [rcs] at h; subst h; simpa using k
  | x :: xs, ys, cs, ds, h, k => by
    simp only [rcs, List.cons_append] at *
    obtain ⟨c1, c2, rfl, h1, h2⟩ := h
    exact ⟨c1, c2 ++ ds, by simp, h1, rcs_append xs ys c2 ds h2 k⟩
theorem AV.sizes_const {sz : Nat} : ∀ (xs : List AV), (∀ x ∈ xs, x.size = sz) → AV.sizes xs = xs.length * sz
  | [], _ => by simp [AV.sizes]
  | x :: xs, h => by
    simp only [AV.sizes, List.length_cons]
    rw [h x (by simp), AV.sizes_const xs (fun y hy => h y (by simp [hy])), Nat.add_mul]
    omega
theorem AV.shs_eq_map : ∀ xs : List AV, AV.shs xs = xs.map AV.sh
  | [] => by simp [AV.shs]
  | x :: xs => by simp [AV.shs, AV.shs_eq_map xs]
/-- The part at a path: its cells lie at the shape's offset. -/
theorem rc_at {w : World} {D : Dom} {E : Env} : ∀ (p : List Nat) (c x : AV) (cs : List Value), rc w D E c cs → c.at p = some x →
    ∃ off c1 c2 c3, c.sh.off p = some off ∧ cs = c1 ++ c2 ++ c3 ∧ c1.length = off ∧ rc w D E x c2
  | [], c, x, cs, hr, h => by
    simp only [AV.at, Option.some.injEq] at h
    subst h
    exact ⟨0, [], cs, [], by cases c.sh <;> simp [Sh.off], by simp, rfl, hr⟩
  | i :: p, .agg fs, x, cs, hr, h => by
    simp only [AV.at] at h
    simp only [rc] at hr
    cases hf : fs[i]? with
    | none => simp [hf] at h
    | some f =>
      simp only [hf] at h
      obtain ⟨c1, c2, c3, rfl, h1, _, h3, _⟩ := rcs_split fs cs i f hr hf
      obtain ⟨off, d1, d2, d3, h4, rfl, h6, h7⟩ := rc_at p f x c2 h3 h
      refine ⟨AV.sizes (fs.take i) + off, c1 ++ d1, d2, d3 ++ c3, ?_, by simp, by simp [h1, h6], h7⟩
      simp only [AV.sh, Sh.off, AV.shs_eq_map, List.getElem?_map, hf, Option.map_some, h4]
      rw [← List.map_take, ← AV.shs_eq_map, AV.shs_sizes]
  | _ :: _, .undef, _, _, _, h | _ :: _, .top, _, _, _, h | _ :: _, .bool _, _, _, _, h | _ :: _, .int _ _, _, _, _, h | _ :: _, .str _, _, _, _, h | _ :: _, .nilp, _, _, _, h
  | _ :: _, .nilf, _, _, _, h | _ :: _, .nili, _, _, _, h | _ :: _, .raw _, _, _, _, h | _ :: _, .nils _, _, _, _, h | _ :: _, .c0 _, _, _, _, h | _ :: _, .slice _ _, _, _, _, h | _ :: _, .tuple _, _, _, _, h
  | _ :: _, .ref _, _, _, _, h | _ :: _, .func _ _, _, _, _, h | _ :: _, .iface _ _, _, _, _, h | _ :: _, .ptr _ _, _, _, _, h | _ :: _, .own _ _, _, _, _, h | _ :: _, .view _ _ _ _ _, _, _, _, h => by simp [AV.at] at h
/-- A new part of the same shape in the place of the old one. -/
theorem rc_setAt {w : World} {D : Dom} {E : Env} : ∀ (p : List Nat) (c x y : AV) (cs ds : List Value), rc w D E c cs → c.at p = some x → rc w D E y ds → y.sh = x.sh →
    ∃ off, c.sh.off p = some off ∧ off + ds.length ≤ cs.length ∧ rc w D E (c.setAt p y) (cs.take off ++ ds ++ cs.drop (off + ds.length)) ∧ (c.setAt p y).sh = c.sh
  | [], c, x, y, cs, ds, hr, h, hy, hs => by
    simp only [AV.at, Option.some.injEq] at h
    subst h
    have hl : ds.length = cs.length := by rw [rc.length _ _ hy, rc.length _ _ hr, ← AV.sh_size, ← AV.sh_size, hs]
    refine ⟨0, by cases c.sh <;> simp [Sh.off], by omega, ?_, by simpa [AV.setAt] using hs⟩
    simpa [AV.setAt, hl] using hy
  | i :: p, .agg fs, x, y, cs, ds, hr, h, hy, hs => by
    simp only [AV.at] at h
    simp only [rc] at hr
    cases hf : fs[i]? with
    | none => simp [hf] at h
    | some f =>
      simp only [hf] at h
      obtain ⟨c1, c2, c3, rfl, h1, h2, h3, h3'⟩ := rcs_split fs cs i f hr hf
      obtain ⟨off, h4, h5, h6, h7⟩ := rc_setAt p f x y c2 ds h3 h hy hs
      have hi : i < fs.length := (List.getElem?_eq_some_iff.1 hf).1
      have hfi : fs[i] = f := (List.getElem?_eq_some_iff.1 hf).2
      refine ⟨AV.sizes (fs.take i) + off, ?_, ?_, ?_, ?_⟩
      · simp only [AV.sh, Sh.off, AV.shs_eq_map, List.getElem?_map, hf, Option.map_some, h4]
        rw [← List.map_take, ← AV.shs_eq_map, AV.shs_sizes]
      · simp only [List.length_append, h1]; omega
      · simp only [AV.setAt, hf, rc]
        have e1 : fs.set i (f.setAt p y) = fs.take i ++ f.setAt p y :: fs.drop (i + 1) := by rw [List.set_eq_take_append_cons_drop]; simp [hi]
        rw [e1]
        have e2 : (c1 ++ c2 ++ c3).take (AV.sizes (fs.take i) + off) ++ ds ++ (c1 ++ c2 ++ c3).drop (AV.sizes (fs.take i) + off + ds.length) = c1 ++ ((c2.take off ++ ds ++ c2.drop (off + ds.length)) ++ c3) := by
          rw [← h1, List.append_assoc c1 c2 c3, List.take_length_add_append, Nat.add_assoc, List.drop_length_add_append, List.take_append_of_le_length (by omega), List.drop_append_of_le_length (by omega)]
          simp
        rw [e2]
        refine rcs_append _ _ _ _ h2 ?_
        simp only [rcs]
        exact ⟨_, _, rfl, h6, h3'⟩
      · simp only [AV.setAt, hf, AV.sh, AV.shs_eq_map, List.map_set, h7, Sh.many.injEq]
        apply List.ext_getElem?
        intro k
        rw [List.getElem?_set]
        split
        · rename_i hk; subst hk; simp [hi, hfi]
        · rfl
  | _ :: _, .undef, _, _, _, _, _, h, _, _ | _ :: _, .top, _, _, _, _, _, h, _, _ | _ :: _, .bool _, _, _, _, _, _, h, _, _ | _ :: _, .int _ _, _, _, _, _, _, h, _, _ | _ :: _, .str _, _, _, _, _, _, h, _, _ | _ :: _, .nilp, _, _, _, _, _, h, _, _
  | _ :: _, .nilf, _, _, _, _, _, h, _, _ | _ :: _, .nili, _, _, _, _, _, h, _, _ | _ :: _, .raw _, _, _, _, _, _, h, _, _ | _ :: _, .nils _, _, _, _, _, _, h, _, _ | _ :: _, .c0 _, _, _, _, _, _, h, _, _ | _ :: _, .slice _ _, _, _, _, _, _, h, _, _ | _ :: _, .tuple _, _, _, _, _, _, h, _, _
  | _ :: _, .ref _, _, _, _, _, _, h, _, _ | _ :: _, .func _ _, _, _, _, _, _, h, _, _ | _ :: _, .iface _ _, _, _, _, _, _, h, _, _ | _ :: _, .ptr _ _, _, _, _, _, _, h, _, _ | _ :: _, .own _ _, _, _, _, _, _, h, _, _ | _ :: _, .view _ _ _ _ _, _, _, _, _, _, h, _, _ => by simp [AV.at] at h
theorem sh_part : ∀ (p : List Nat) (c x : AV), c.at p = some x → c.sh.part p = some x.sh
  | [], c, x, h => by simp only [AV.at, Option.some.injEq] at h; subst h; cases c.sh <;> rfl
  | i :: p, .agg fs, x, h => by
    simp only [AV.at] at h
    cases hf : fs[i]? with
    | none => simp [hf] at h
    | some f =>
      simp only [hf] at h
      simp only [AV.sh, Sh.part, AV.shs_eq_map, List.getElem?_map, hf, Option.map_some]
      exact sh_part p f x h
  | _ :: _, .undef, _, h | _ :: _, .top, _, h | _ :: _, .bool _, _, h | _ :: _, .int _ _, _, h | _ :: _, .str _, _, h | _ :: _, .nilp, _, h
  | _ :: _, .nilf, _, h | _ :: _, .nili, _, h | _ :: _, .raw _, _, h | _ :: _, .nils _, _, h | _ :: _, .c0 _, _, h | _ :: _, .slice _ _, _, h | _ :: _, .tuple _, _, h
  | _ :: _, .ref _, _, h | _ :: _, .func _ _, _, h | _ :: _, .iface _ _, _, h | _ :: _, .ptr _ _, _, h | _ :: _, .own _ _, _, h | _ :: _, .view _ _ _ _ _, _, h => by simp [AV.at] at h
end Go.Abs

/-
  THE ABSTRACT LAYER, 2: abstract states; when a frame and a world fit one; how they go on fitting when memory grows or is written. Over any program.
-/
namespace Go.Abs
open Go Go.RowKit
/-- An object of the frame's own: a variable in memory; a slice that only this frame appends to. -/
inductive AO where
  | box (c : AV)
  | row (T : TypeId) (sz : Nat) (es : List AV)
  | opq (o : Obj)
  deriving Inhabited
def AO.fix : AO → Bool
  | .row _ _ _ => false
  | _ => true
structure AState where
  t : Nat → AV
  o : Nat → Option AO
def AState.put (A : AState) (d : Nat) (v : AV) : AState := ⟨fun k => if k = d then v else A.t k, A.o⟩
def AState.putO (A : AState) (d : Option Nat) (v : AV) : AState := match d with | some d => A.put d v | none => A
def AState.setO (A : AState) (n : Nat) (x : AO) : AState := ⟨A.t, fun k => if k = n then some x else A.o k⟩
/-! ### states written as lists -/
def look : List (Nat × AV) → Nat → AV
  | [], _ => .top
  | (k, v) :: r, t => if t = k then v else look r t
def lookO : List (Nat × AO) → Nat → Option AO
  | [], _ => none
  | (k, v) :: r, t => if t = k then some v else lookO r t
def mkA (ts : List (Nat × AV)) (os : List (Nat × AO)) : AState := ⟨look ts, lookO os⟩
def isIn (os : List (Nat × AO)) (n : Nat) : Bool := (lookO os n).isSome
abbrev Post := AV → List (Nat × AO) → Prop
/-- What does not change while one call runs: the program, the world at its beginning, what may then be read for good, the number of slots; the blocks that it was handed to write, and their names;
    what calls of function values that came in may be asked for; whether it is a round of a loop over a function. -/
structure Ctx where
  P : Program
  w0 : World
  D0 : Dom
  n : Nat
  own : Nat → Prop
  E0 : Env
  Y : Value → List AV → List (Nat × AO) → Post → Prop
  rnd : Option Nat
def noY : Value → List AV → List (Nat × AO) → Post → Prop := fun _ _ _ _ => False
/-- A context of a call that is handed nothing to write. -/
abbrev Ctx.plain (P : Program) (w0 : World) (D0 : Dom) (n : Nat) : Ctx := ⟨P, w0, D0, n, fun _ => False, fun _ => none, noY, none⟩
/-- The fence of the walk. -/
def Ctx.F (c : Ctx) : Fence := match c.rnd with
  | none => Fence.wide
  | some l => Fence.wide.inRound l
/-- The blocks that the call may write: its own, and those that it was handed. -/
def Ctx.Mine (c : Ctx) (b : Nat) : Prop := c.w0.heap.size ≤ b ∨ c.own b
/-- All that is not of these blocks is as it was. -/
structure Kept (M : Nat → Prop) (w w' : World) : Prop where
  os : w'.os = w.os
  tape : w'.tape = w.tape
  output : w'.output = w.output
  size : w.heap.size ≤ w'.heap.size
  block : ∀ k, ¬ M k → w'.heap[k]? = w.heap[k]?
theorem Kept.refl (M : Nat → Prop) (w : World) : Kept M w w := ⟨rfl, rfl, rfl, Nat.le_refl _, fun _ _ => rfl⟩
theorem Kept.trans {M : Nat → Prop} {a b c : World} (h : Kept M a b) (k : Kept M b c) : Kept M a c :=
  ⟨k.os.trans h.os, k.tape.trans h.tape, k.output.trans h.output, Nat.le_trans h.size k.size, fun i hi => (k.block i hi).trans (h.block i hi)⟩
theorem Kept.grow {M : Nat → Prop} {w w' : World} {B : Nat} (h : Below B w w') (hB : ∀ k, B ≤ k → M k) : Kept M w w' :=
  ⟨h.os, h.tape, h.output, h.size, fun k hk => h.block k (Nat.lt_of_not_le fun hle => hk (hB k hle))⟩
theorem Kept.below {M : Nat → Prop} {w w' : World} {B : Nat} (h : Kept M w w') (hB : ∀ k, k < B → ¬ M k) : Below B w w' :=
  ⟨h.os, h.tape, h.output, h.size, fun k hk => h.block k (hB k hk)⟩
def Ent.blk : Ent → Option Nat
  | .bx b _ => some b
  | .rw (some (b, _)) _ => some b
  | .rw none _ => none
  | .op b => some b
/-- The record of a loop over a function. -/
def isRec : Obj → Bool
  | .loop _ => true
  | _ => false
def objOk (M : Nat → Prop) (w : World) (D : Dom) (E : Env) (n : Nat) : Option AO → Prop
  | none => E n = none
  | some (.box x) => ∃ b cs T, E n = some (.bx b x.sh) ∧ M b ∧ w.heap[b]? = some (.cells cs T (0, 0)) ∧ rc w D E x cs.toList ∧ ∀ o, ¬ D b o
  | some (.row T sz es) => ∃ blk, E n = some (.rw blk es.length) ∧ (∀ e ∈ es, e.size = sz) ∧ match blk with
    | none => es = []
    | some (b, cap) => ∃ cs pre rest, M b ∧ w.heap[b]? = some (.cells cs T (0, 0)) ∧ cs.toList = pre ++ rest ∧ rcs w D E es pre ∧
        cs.size = cap * sz ∧ es.length ≤ cap ∧ cap ≤ maxLen ∧ ∀ o, D b o → o < pre.length
  | some (.opq x) => ∃ b, E n = some (.op b) ∧ M b ∧ w.heap[b]? = some x ∧ isRec x = true ∧ ∀ o, ¬ D b o
/-- The blocks of these names. -/
def ownE (E : Env) (b : Nat) : Prop := ∃ n e, E n = some e ∧ e.blk = some b
/-- The objects are as told. -/
structure HeldO (M : Nat → Prop) (w : World) (D : Dom) (E : Env) (o : Nat → Option AO) : Prop where
  obj : ∀ n, objOk M w D E n (o n)
  sep : ∀ n m e e' b, E n = some e → E m = some e' → e.blk = some b → e'.blk = some b → n = m
/-- Objects are handed over; they come back. -/
def Hand (run : Array Value → World → (Ending → World → Prop) → Prop) (since : World → Dom → Env → Prop) (args : List AV) (os : List (Nat × AO)) (post : Post) : Prop :=
  ∀ (w : World) (D : Dom) (E : Env) (vs : List Value), since w D E → (∀ b o, D b o → b < w.heap.size) → HeldO (fun _ => True) w D E (lookO os) → rvs w D E args vs →
    run vs.toArray w fun e w' => ∃ v D' E' r os', e = .returned v ∧ post r os' ∧ rv w' D' E' r v ∧ HeldO (fun b => w.heap.size ≤ b ∨ ownE E b) w' D' E' (lookO os') ∧
      Kept (fun b => w.heap.size ≤ b ∨ ownE E b) w w' ∧ (∀ b o, D b o → D' b o) ∧ (∀ b o, D' b o → b < w'.heap.size) ∧ (∀ b o, D' b o → b < w.heap.size → ¬ ownE E b → D b o) ∧
      ∀ n e, E n = some e → e.fix = true → isIn os' n = true → E' n = some e
/-- What is true of every moment of a call: the world has gone on from the one at its beginning. -/
structure Since (c : Ctx) (w : World) (D : Dom) (E : Env) : Prop where
  unch : Kept c.Mine c.w0 w
  up : ∀ b o, c.D0 b o → D b o
  dom : ∀ b o, D b o → ¬ c.Mine b → c.D0 b o
  hist : ∀ n e, c.E0 n = some e → e.fix = true → E n = none ∨ E n = some e
/-- Calling yield. -/
def YRun (P : Program) (v : Value) (vs : Array Value) (w : World) (R : Ending → World → Prop) : Prop :=
  ∃ l, v = .func (.yield l) #[] #[] ∧ YieldAt Fence.wide 9 P l vs w R
def YOk (c : Ctx) : Prop := ∀ v args os post, c.Y v args os post → Hand (YRun c.P v) (Since c) args os post
/-- The marks that loops over functions leave among the deferred calls. -/
def Marks (w0 : World) (ds : List Deferred) (w : World) : Prop :=
  ∃ Bs : List Nat, ds = Bs.map (fun B => { target := .collected B, args := #[] }) ∧ Bs.Nodup ∧ ∀ B ∈ Bs, w0.heap.size ≤ B ∧ w.heap[B]? = some (.deferred (some []))
theorem Marks.mono {w0 w w' : World} {ds : List Deferred} (h : Marks w0 ds w) (hk : ∀ B, w0.heap.size ≤ B → w.heap[B]? = some (.deferred (some [])) → w'.heap[B]? = some (.deferred (some []))) : Marks w0 ds w' := by
  obtain ⟨Bs, h1, h2, h3⟩ := h
  exact ⟨Bs, h1, h2, fun B hB => ⟨(h3 B hB).1, hk B (h3 B hB).1 (h3 B hB).2⟩⟩
theorem Marks.grow {w0 w w' : World} {ds : List Deferred} (h : Marks w0 ds w) (hk : Below w.heap.size w w') : Marks w0 ds w' :=
  h.mono fun B _ hB => (hk.block B (Array.getElem?_eq_some_iff.1 hB).1).trans hB
structure SimW (c : Ctx) (A : AState) (a : Act) (w : World) (D : Dom) (E : Env) : Prop where
  sz : a.tmps.size = c.n
  defs : Marks c.w0 a.defers w
  tm : ∀ t, rv w D E (A.t t) (a.tmps.getD t undef)
  unch : Kept c.Mine c.w0 w
  dom : ∀ b o, D b o → ¬ c.Mine b → c.D0 b o
  live : ∀ b o, D b o → b < w.heap.size
  obj : ∀ n, objOk c.Mine w D E n (A.o n)
  sep : ∀ n m e e' b, E n = some e → E m = some e' → e.blk = some b → e'.blk = some b → n = m
  hist : ∀ n e, c.E0 n = some e → e.fix = true → E n = none ∨ E n = some e
  nam : ∀ n, c.E0 n ≠ none → c.n ≤ n ∧ 1000000 ≤ n
  up : ∀ b o, c.D0 b o → D b o
  yok : YOk c
/-- A frame and a world fit an abstract state. -/
def Sim (c : Ctx) (A : AState) (a : Act) (w : World) : Prop := ∃ D E, SimW c A a w D E
section
variable {c : Ctx} {A : AState} {a : Act} {w : World} {D : Dom} {E : Env}
theorem heap_lt {w : World} {b : Nat} {o : Obj} (h : w.heap[b]? = some o) : b < w.heap.size := (Array.getElem?_eq_some_iff.1 h).1
theorem SimW.blk_lt (h : SimW c A a w D E) {n : Nat} {e : Ent} {b : Nat} (he : E n = some e) (hb : e.blk = some b) : b < w.heap.size := by
  have := h.obj n
  unfold objOk at this
  split at this
  · simp [this] at he
  · obtain ⟨b', cs, T, h1, h2, h3, _⟩ := this
    rw [h1, Option.some.injEq] at he
    subst he
    simp only [Ent.blk, Option.some.injEq] at hb
    subst hb
    exact heap_lt h3
  · obtain ⟨blk, h1, h2, h3⟩ := this
    rw [h1, Option.some.injEq] at he
    subst he
    split at h3
    · simp [Ent.blk] at hb
    · obtain ⟨cs, pre, rest, h4, h5, _⟩ := h3
      simp only [Ent.blk, Option.some.injEq] at hb
      subst hb
      exact heap_lt h5
  · obtain ⟨b', h1, h2, h3, _⟩ := this
    rw [h1, Option.some.injEq] at he
    subst he
    simp only [Ent.blk, Option.some.injEq] at hb
    subst hb
    exact heap_lt h3
theorem SimW.opNo (h : SimW c A a w D E) {n b : Nat} (he : E n = some (.op b)) : ∀ o, ¬ D b o := by
  have := h.obj n
  unfold objOk at this
  split at this
  · rw [this] at he; cases he
  · obtain ⟨b', cs, T, h1, _⟩ := this
    rw [h1] at he; cases he
  · obtain ⟨blk, h1, _⟩ := this
    rw [h1] at he; cases he
  · obtain ⟨b', h1, _, _, _, h5⟩ := this
    rw [h1] at he
    cases he
    exact h5
/-- What an object says goes on: its block is as it was, what it reads is as it was. -/
theorem objOk.later {M : Nat → Prop} {w' : World} {D' : Dom} {E' : Env} {n : Nat} {x : Option AO} (h : objOk M w D E n x) (hl : Later w D E w' D' E') (hE : E' n = E n)
    (hheap : ∀ e b, E n = some e → e.blk = some b → w'.heap[b]? = w.heap[b]? ∧ ∀ o, D' b o → D b o) : objOk M w' D' E' n x := by
  unfold objOk at *
  split
  · rw [hE]; exact h
  · obtain ⟨b, cs, T, h1, h2, h3, h4, h5⟩ := h
    obtain ⟨k1, k2⟩ := hheap _ b h1 rfl
    exact ⟨b, cs, T, hE.trans h1, h2, k1.trans h3, rc.later hl _ _ h4, fun o ho => h5 o (k2 o ho)⟩
  · obtain ⟨blk, h1, h2, h3⟩ := h
    refine ⟨blk, hE.trans h1, h2, ?_⟩
    split
    · exact h3
    · rename_i b cap
      obtain ⟨cs, pre, rest, h4, h5, h6, h7, h8, h9, h10, h11⟩ := h3
      obtain ⟨k1, k2⟩ := hheap _ b h1 rfl
      exact ⟨cs, pre, rest, h4, k1.trans h5, h6, rcs.later hl _ _ h7, h8, h9, h10, fun o ho => h11 o (k2 o ho)⟩
  · obtain ⟨b, h1, h2, h3, h4, h5⟩ := h
    obtain ⟨k1, k2⟩ := hheap _ b h1 rfl
    exact ⟨b, hE.trans h1, h2, k1.trans h3, h4, fun o ho => h5 o (k2 o ho)⟩
theorem Later.grow {w' : World} {D' : Dom} (hb : Below w.heap.size w w') (hD : ∀ b o, D b o → D' b o) : Later w D E w' D' E := by
  refine ⟨hD, fun b o v _ hv => ?_, fun _ _ _ h => h, fun _ blk l h => ⟨blk, l, h, Nat.le_refl _, fun _ => rfl⟩⟩
  rw [hb.cell (World.block_lt_of_cell? w _ hv)]
  exact hv
theorem SimW.grown (h : SimW c A a w D E) {w' : World} (hb : Below w.heap.size w w') : Kept c.Mine w w' := Kept.grow hb fun k hk => .inl (Nat.le_trans h.unch.size hk)
theorem SimW.old (h : SimW c A a w D E) {b : Nat} (hm : ¬ c.Mine b) : b < w.heap.size :=
  Nat.lt_of_lt_of_le (Nat.lt_of_not_le fun hle => hm (.inl hle)) h.unch.size
theorem SimW.fresh (h : SimW c A a w D E) {d : Nat} (hd : d < c.n ∨ d < 1000000) : c.E0 d = none := by
  cases hh : c.E0 d with
  | none => rfl
  | some e => have := h.nam d (by rw [hh]; simp); omega
/-- Memory has grown; what was there is as it was; more may be read for good. -/
theorem SimW.grow (h : SimW c A a w D E) {w' : World} {D' : Dom} (hb : Below w.heap.size w w') (hD : ∀ b o, D b o → D' b o)
    (hold : ∀ b o, D' b o → b < w.heap.size → D b o) (hlive : ∀ b o, D' b o → b < w'.heap.size) : SimW c A a w' D' E := by
  have hl : Later w D E w' D' E := Later.grow hb hD
  refine ⟨h.sz, h.defs.grow hb, fun t => rv.later hl (h.tm t), h.unch.trans (h.grown hb), fun b o hd hm => h.dom b o (hold b o hd (h.old hm)) hm, hlive,
    fun n => (h.obj n).later hl rfl (fun e b he hb' => ⟨hb.block b (h.blk_lt he hb'), fun o ho => hold b o ho (h.blk_lt he hb')⟩), h.sep, h.hist, h.nam, fun b o hd => hD b o (h.up b o hd), h.yok⟩
/-- More of the same world may be read for good: parts of rows that are written no more. -/
theorem SimW.widen (h : SimW c A a w D E) {D' : Dom} (hD : ∀ b o, D b o → D' b o)
    (hold : ∀ b o, D' b o → ¬ c.Mine b → c.D0 b o) (hlive : ∀ b o, D' b o → b < w.heap.size)
    (hbox : ∀ n x b, A.o n = some (.box x) → E n = some (.bx b x.sh) → ∀ o, ¬ D' b o)
    (hrow : ∀ n T sz es b cap, A.o n = some (.row T sz es) → E n = some (.rw (some (b, cap)) es.length) → ∀ o, D' b o → o < es.length * sz)
    (hopq : ∀ n b, E n = some (.op b) → ∀ o, ¬ D' b o) : SimW c A a w D' E := by
  have hl : Later w D E w D' E := ⟨hD, fun _ _ _ _ h => h, fun _ _ _ h => h, fun _ blk l h => ⟨blk, l, h, Nat.le_refl _, fun _ => rfl⟩⟩
  refine ⟨h.sz, h.defs, fun t => rv.later hl (h.tm t), h.unch, hold, hlive, fun n => ?_, h.sep, h.hist, h.nam, fun b o hd => hD b o (h.up b o hd), h.yok⟩
  have ho := h.obj n
  cases hx : A.o n with
  | none => rw [hx] at ho; exact ho
  | some x =>
    cases x with
    | box x =>
      rw [hx] at ho
      obtain ⟨b, cs, T, h1, h2, h3, h4, h5⟩ := ho
      exact ⟨b, cs, T, h1, h2, h3, rc.later hl _ _ h4, hbox n x b hx h1⟩
    | row T sz es =>
      rw [hx] at ho
      obtain ⟨blk, h1, h2, h3⟩ := ho
      refine ⟨blk, h1, h2, ?_⟩
      cases blk with
      | none => exact h3
      | some bc =>
        obtain ⟨b, cap⟩ := bc
        obtain ⟨cs, pre, rest, h4, h5, h6, h7, h8, h9, h10, h11⟩ := h3
        refine ⟨cs, pre, rest, h4, h5, h6, rcs.later hl _ _ h7, h8, h9, h10, fun o hd => ?_⟩
        rw [rcs.length _ _ h7, AV.sizes_const _ h2]
        exact hrow n T sz es b cap hx h1 o hd
    | opq x =>
      rw [hx] at ho
      obtain ⟨b, h1, h2, h3, h4, h5⟩ := ho
      exact ⟨b, h1, h2, h3, h4, hopq n b h1⟩
theorem getD_put (a : Act) (d : Nat) (v : Value) (t : Nat) (hd : d < a.tmps.size) : (a.put (some d) v).tmps.getD t undef = if t = d then v else a.tmps.getD t undef := by
  simp only [Act.put, Array.getD_eq_getD_getElem?, Array.getElem?_setIfInBounds]
  by_cases h : t = d
  · subst h; simp [hd]
  · simp [h, Ne.symm h]
theorem SimW.put (h : SimW c A a w D E) {d : Nat} {x : AV} {v : Value} (hd : d < c.n) (hv : rv w D E x v) : SimW c (A.put d x) (a.put (some d) v) w D E := by
  refine ⟨by simp [Act.put, h.sz], by exact h.defs, fun t => ?_, h.unch, h.dom, h.live, h.obj, h.sep, h.hist, h.nam, h.up, h.yok⟩
  rw [getD_put a d v t (by rw [h.sz]; exact hd)]
  simp only [AState.put]
  split
  · exact hv
  · exact h.tm t
theorem SimW.putO (h : SimW c A a w D E) {d : Option Nat} {x : AV} {v : Value} (hd : ∀ k, d = some k → k < c.n) (hv : rv w D E x v) : SimW c (A.putO d x) (a.put d v) w D E := by
  cases d with
  | none => exact h
  | some d => exact h.put (hd d rfl) hv
theorem below_alloc (w : World) (o : Obj) : Below w.heap.size w (w.alloc o) := (Below.refl _ _).alloc (Nat.le_refl _) o
/-- A new variable in memory. -/
theorem SimW.newBox (h : SimW c A a w D E) {d : Nat} {x : AV} {cs : Array Value} {T : TypeId} (hdn : d < c.n ∨ d < 1000000) (hd : A.o d = none) (hx : rc w D E x cs.toList) :
    SimW c (A.setO d (.box x)) a (w.alloc (.cells cs T)) D (fun n => if n = d then some (.bx w.heap.size x.sh) else E n) := by
  have hEd : E d = none := by have := h.obj d; rw [hd] at this; exact this
  have hne : ∀ {n : Nat} {e : Ent}, E n = some e → n ≠ d := fun he e' => by rw [e', hEd] at he; cases he
  have hl : Later w D E (w.alloc (.cells cs T)) D (fun n => if n = d then some (.bx w.heap.size x.sh) else E n) := by
    refine ⟨fun _ _ h => h, fun b o v _ hv => ?_, fun n b sh he => ?_, fun n blk l he => ?_⟩
    · rw [World.cell?_alloc_lt _ _ _ (World.block_lt_of_cell? w _ hv)]; exact hv
    · simp only [if_neg (hne he)]; exact he
    · exact ⟨blk, l, by simp only [if_neg (hne he)]; exact he, Nat.le_refl _, fun _ => rfl⟩
  refine ⟨h.sz, h.defs.grow (below_alloc w _), fun t => rv.later hl (h.tm t), h.unch.trans (h.grown (below_alloc w _)), h.dom, fun b o hd' => by have := h.live b o hd'; simp; omega, fun n => ?_, ?_, fun n e hn hfx => ?_, h.nam, h.up, h.yok⟩
  · simp only [AState.setO]
    by_cases hn : n = d
    · subst hn
      simp only [if_true, objOk]
      exact ⟨w.heap.size, cs, T, rfl, .inl h.unch.size, heap_alloc_new w _, rc.later hl _ _ hx, fun o ho => Nat.lt_irrefl _ (h.live _ o ho)⟩
    · simp only [if_neg hn]
      exact (h.obj n).later hl (by simp only [if_neg hn]) fun e b he hb => ⟨Below.heap_alloc w _ b (h.blk_lt he hb), fun _ ho => ho⟩
  · intro n m e e' b h1 h2 h3 h4
    by_cases hn : n = d <;> by_cases hm : m = d
    · rw [hn, hm]
    · simp only [if_pos hn, Option.some.injEq] at h1
      simp only [if_neg hm] at h2
      subst h1
      simp only [Ent.blk, Option.some.injEq] at h3
      have := h.blk_lt h2 h4
      omega
    · simp only [if_neg hn] at h1
      simp only [if_pos hm, Option.some.injEq] at h2
      subst h2
      simp only [Ent.blk, Option.some.injEq] at h4
      have := h.blk_lt h1 h3
      omega
    · simp only [if_neg hn] at h1
      simp only [if_neg hm] at h2
      exact h.sep n m e e' b h1 h2 h3 h4
  · have hnd : n ≠ d := fun e => by rw [e, h.fresh hdn] at hn; cases hn
    simp only [if_neg hnd]
    exact h.hist n e hn hfx
theorem cell?_setRow_other (w : World) (g : Nat) (cs : Array Value) (p : Addr) (h : p.block ≠ g) : (w.setRow g cs).cell? p = w.cell? p :=
  World.cell?_of_block (setRow_other w g p.block cs h)
theorem kept_setRow {M : Nat → Prop} {w0 w : World} (h : Kept M w0 w) {g : Nat} (hg : M g) (cs : Array Value) : Kept M w0 (w.setRow g cs) :=
  h.trans ⟨rfl, rfl, rfl, by simp [World.setRow], fun k hk => setRow_other w g k cs (fun e => hk (e ▸ hg))⟩
/-- A variable in memory is written: another value of the same shape. -/
theorem SimW.setBox (h : SimW c A a w D E) {n b : Nat} {x y : AV} {cs' : Array Value} (hn : A.o n = some (.box x)) (hE : E n = some (.bx b x.sh)) (hs : y.sh = x.sh) (hy : rc w D E y cs'.toList) :
    SimW c (A.setO n (.box y)) a (w.setRow b cs') D E := by
  have ho := h.obj n
  rw [hn] at ho
  obtain ⟨b', cs, T, h1, h2, h3, h4, h5⟩ := ho
  rw [hE] at h1
  simp only [Option.some.injEq, Ent.bx.injEq, and_true] at h1
  subst h1
  have hl : Later w D E (w.setRow b cs') D E := by
    refine ⟨fun _ _ h => h, fun b1 o v hd hv => ?_, fun _ _ _ h => h, fun _ blk l h => ⟨blk, l, h, Nat.le_refl _, fun _ => rfl⟩⟩
    rw [cell?_setRow_other _ _ _ _ (fun e => h5 o (by rw [← e]; exact hd))]
    exact hv
  refine ⟨h.sz, h.defs.mono fun B _ hB => (setRow_other w b B cs' (fun e => by rw [e, h3] at hB; cases hB)).trans hB, fun t => rv.later hl (h.tm t), kept_setRow h.unch h2 _, h.dom, fun b1 o hd => by have := h.live b1 o hd; simpa [World.setRow] using this, fun m => ?_, h.sep, h.hist, h.nam, h.up, h.yok⟩
  simp only [AState.setO]
  by_cases hm : m = n
  · subst hm
    simp only [if_true, objOk]
    exact ⟨b, cs', T, by rw [hs]; exact hE, h2, setRow_heap w b cs cs' T _ h3, rc.later hl _ _ hy, h5⟩
  · simp only [if_neg hm]
    refine (h.obj m).later hl rfl fun e b1 he hb => ⟨setRow_other w b b1 cs' (fun e1 => hm (h.sep m n e _ b he hE (by rw [hb, e1]) rfl)), fun _ ho => ho⟩
end
end Go.Abs

/-
  THE ABSTRACT LAYER, 3: operations: the abstract ones, how they are read off the program's own, what they yield, and that memory follows. Over any program.
-/
namespace Go.Abs
open Go Go.RowKit
inductive AOpd where
  | t (n : Nat)
  | c (x : AV)
  deriving Inhabited
/-- Types whose values '==' compares part by part. -/
inductive ETy where
  | i (k : IntKind)
  | b
  | s
  | st (l : List ETy)
  | ar (n : Nat) (e : ETy)
  deriving Inhabited
mutual
def ETy.size : ETy → Nat
  | .i _ | .b | .s => 1
  | .st l => ETy.sizes l
  | .ar n e => n * e.size
def ETy.sizes : List ETy → Nat
  | [] => 0
  | t :: ts => t.size + ETy.sizes ts
end
inductive AOp where
  | mv (x : AOpd)
  | pick (c a b : AOpd)
  | bin (op : BinOp) (x y : AOpd)
  | eqv (ty : ETy) (neg : Bool) (x y : AOpd)
  | nilS (neg : Bool) (x : AOpd)
  | conv (k : IntKind) (x : AOpd)
  | un (op : UnOp) (x : AOpd)
  | ld (s : Option Nat) (x : AOpd)
  | fa (f off : Nat) (x : AOpd)
  | fl (f off : Nat) (s : Option Nat) (x : AOpd)
  | ia (n esz : Nat) (x i : AOpd)
  | is (esz : Nat) (x i : AOpd)
  | ix (n esz : Nat) (s : Option Nat) (x i : AOpd)
  | len (x : AOpd)
  | lenT (x : AOpd)
  | va (n esz : Nat) (x : AOpd)
  | sl (esz : Nat) (x : AOpd) (lo hi mx : Option AOpd)
  | bld (zs : List AV) (parts : List (Nat × AOpd))
  | bs (esz : Nat) (parts : List AOpd)
  | ext (x : AOpd) (i : Nat)
  | mk (f : FuncId) (caps : List AOpd)
  | alloc (z : AV)
  | box (x : AOpd)
  | st (s : Option Nat) (x v : AOpd)
  | app (e : TypeId) (esz bytes : Nat) (z : AV) (s x : AOpd)
  | apz (e : TypeId) (esz bytes : Nat) (z : AV) (s n : AOpd)
  | cap (x : AOpd)
  | bs0 (esz : Nat)
  | clr (esz : Nat) (z : AV) (x : AOpd)
  | cpy (esz : Nat) (x y : AOpd)
  | call (f : FuncId) (args : List AOpd)
  | callv (x : AOpd) (args : List AOpd)
  | xcall (f : FuncId) (args : List AOpd)
  deriving Inhabited
/-! ### constants -/
def cVal (sz : Nat) : Value → Option AV
  | .bool b => some (.bool b)
  | .int k n => if k.min ≤ n ∧ n ≤ k.max then some (.int k n) else none
  | .string s => if s.size ≤ 1000000 then some (.str s) else none
  | .pointer none => some .nilp
  | .slice none 0 0 => some (.nils sz)
  | .nilFunc => some .nilf
  | .nilIface => some .nili
  | _ => none
theorem cVal_ok {sz : Nat} {v : Value} {x : AV} (h : cVal sz v = some x) (w : World) (D : Dom) (E : Env) : rv w D E x v := by
  unfold cVal at h
  split at h
  case h_2 =>
    split at h
    · rename_i hh
      simp only [Option.some.injEq] at h; subst h
      exact ⟨_, by simp [isPack, AV.isAgg]; rfl, by simp only [rc, true_and]; exact hh⟩
    · simp at h
  case h_3 =>
    split at h
    · rename_i hh
      simp only [Option.some.injEq] at h; subst h
      exact ⟨_, by simp [isPack, AV.isAgg]; rfl, by simp only [rc, true_and]; unfold maxLen; omega⟩
    · simp at h
  case h_8 => simp at h
  all_goals
    simp only [Option.some.injEq] at h; subst h
    exact ⟨_, by simp [isPack, AV.isAgg]; rfl, by simp only [rc]⟩
/-- The element's size where a type is a slice's. -/
def eszOf (P : Program) (t : TypeId) : Nat := match P.underlying t with | some (.slice e) => P.cellsOf e | _ => 0
def cOpd (P : Program) (t : TypeId) : Operand → Option AOpd
  | .tmp n => some (.t n)
  | .const v => (cVal (eszOf P t) v).map .c
  | .func f => some (.c (.func f []))
  | .global _ => none
def ev (A : AState) : AOpd → AV
  | .t n => A.t n
  | .c x => x
section
variable {c : Ctx} {A : AState} {a : Act} {w : World} {D : Dom} {E : Env}
theorem ev_ok (h : SimW c A a w D E) {P : Program} {t : TypeId} {x : Operand} {y : AOpd} (hc : cOpd P t x = some y) : rv w D E (ev A y) (a.eval x) := by
  cases x with
  | tmp n => simp only [cOpd, Option.some.injEq] at hc; subst hc; exact h.tm n
  | const v =>
    simp only [cOpd, Option.map_eq_some_iff] at hc
    obtain ⟨z, hz, rfl⟩ := hc
    exact cVal_ok hz w D E
  | global g => simp [cOpd] at hc
  | func f =>
    simp only [cOpd, Option.some.injEq] at hc; subst hc
    exact ⟨[.func (.func f) #[] #[]], by simp [isPack, AV.isAgg, ev, Act.eval], by simp only [rc, ev, rvs]; exact ⟨[], rfl, rfl⟩⟩
/-! what a value's abstract value says of it -/
theorem rv_bool {b : Bool} {v : Value} (h : rv w D E (.bool b) v) : v = .bool b := by
  obtain ⟨cs, h1, h2⟩ := h
  simp only [rc] at h2
  simp [isPack, AV.isAgg, h2] at h1
  exact h1.symm
theorem rv_int {k : IntKind} {n : Int} {v : Value} (h : rv w D E (.int k n) v) : v = .int k n ∧ k.min ≤ n ∧ n ≤ k.max := by
  obtain ⟨cs, h1, h2⟩ := h
  simp only [rc] at h2
  simp [isPack, AV.isAgg, h2.1] at h1
  exact ⟨h1.symm, h2.2⟩
theorem rv_str {s : ByteArray} {v : Value} (h : rv w D E (.str s) v) : v = .string s ∧ s.size ≤ maxLen := by
  obtain ⟨cs, h1, h2⟩ := h
  simp only [rc] at h2
  simp [isPack, AV.isAgg, h2.1] at h1
  exact ⟨h1.symm, h2.2⟩
theorem mk_one {x : AV} {v : Value} (hx : x.isAgg = false) (h : rc w D E x [v]) : rv w D E x v := by
  cases x <;> simp only [rc] at h <;> first | (simp [AV.isAgg] at hx; done) | exact ⟨[v], by simp [isPack, AV.isAgg], by simpa only [rc] using h⟩
theorem rv_agg {fs : List AV} {v : Value} (h : rv w D E (.agg fs) v) : ∃ cs : List Value, v = .agg cs.toArray ∧ rcs w D E fs cs := by
  obtain ⟨cs, h1, h2⟩ := h
  simp only [rc] at h2
  exact ⟨cs, by simpa [isPack, AV.isAgg] using h1, h2⟩
theorem mk_agg {fs : List AV} {cs : List Value} (h : rcs w D E fs cs) : rv w D E (.agg fs) (.agg cs.toArray) := ⟨cs, by simp [isPack, AV.isAgg], by simpa only [rc] using h⟩
theorem mk_bool (b : Bool) : rv w D E (.bool b) (.bool b) := ⟨[.bool b], by simp [isPack, AV.isAgg], by simp [rc]⟩
theorem mk_int {k : IntKind} {n : Int} (h : k.min ≤ n ∧ n ≤ k.max) : rv w D E (.int k n) (.int k n) := ⟨[.int k n], by simp [isPack, AV.isAgg], by simp only [rc, true_and]; exact h⟩
theorem rv_ptr {n : Nat} {p : List Nat} {v : Value} (h : rv w D E (.ptr n p) v) : ∃ b sh off, E n = some (.bx b sh) ∧ sh.off p = some off ∧ v = .pointer (some ⟨b, off, none⟩) := by
  obtain ⟨cs, h1, h2⟩ := h
  simp only [rc] at h2
  obtain ⟨b, sh, off, h3, h4, h5⟩ := h2
  exact ⟨b, sh, off, h3, h4, by simpa [isPack, AV.isAgg, h5] using h1.symm⟩
theorem rv_ref {x : AV} {v : Value} (h : rv w D E (.ref x) v) : ∃ b off cs, v = .pointer (some ⟨b, off, none⟩) ∧ reads w D b off cs ∧ rc w D E x cs := by
  obtain ⟨cs, h1, h2⟩ := h
  simp only [rc] at h2
  obtain ⟨b, off, cs', h3, h4, h5⟩ := h2
  exact ⟨b, off, cs', by simpa [isPack, AV.isAgg, h3] using h1.symm, h4, h5⟩
theorem mk_ref {x : AV} {b off : Nat} {cs : List Value} (h1 : reads w D b off cs) (h2 : rc w D E x cs) : rv w D E (.ref x) (.pointer (some ⟨b, off, none⟩)) :=
  ⟨_, by simp [isPack, AV.isAgg]; rfl, by simp only [rc]; exact ⟨b, off, cs, rfl, h1, h2⟩⟩
theorem rv_slice {sz : Nat} {es : List AV} {v : Value} (h : rv w D E (.slice sz es) v) : ∃ ad cap, v = .slice ad es.length cap ∧ es.length ≤ cap ∧ cap ≤ maxLen ∧
    (es = [] ∨ ∃ b off cs, ad = some ⟨b, off, none⟩ ∧ reads w D b off cs ∧ rcs w D E es cs) ∧ ∀ e ∈ es, e.size = sz := by
  obtain ⟨cs, h1, h2⟩ := h
  simp only [rc] at h2
  obtain ⟨ad, cap, h3, h4⟩ := h2
  exact ⟨ad, cap, by simpa [isPack, AV.isAgg, h3] using h1.symm, h4⟩
theorem mk_slice {sz : Nat} {es : List AV} {ad : Option Addr} {n cap : Nat} (hn : n = es.length) (h1 : n ≤ cap) (h2 : cap ≤ maxLen)
    (h3 : es = [] ∨ ∃ b off cs, ad = some ⟨b, off, none⟩ ∧ reads w D b off cs ∧ rcs w D E es cs) (h4 : ∀ e ∈ es, e.size = sz) : rv w D E (.slice sz es) (.slice ad n cap) := by
  subst hn
  exact ⟨_, by simp [isPack, AV.isAgg]; rfl, by simp only [rc]; exact ⟨ad, cap, rfl, h1, h2, h3, h4⟩⟩
end
/-! ### arithmetic -/
def aBin (op : BinOp) (x y : AV) : Option AV :=
  match x, y with
  | .int k a, .int k' b =>
    match op with
    | .shl => if 0 ≤ b then some (.int k (k.wrap (a * 2 ^ (min b.toNat k.bits)))) else none
    | .shr => if 0 ≤ b then some (.int k (a.fdiv (2 ^ (min b.toNat k.bits)))) else none
    | op => if k = k' then
      match op with
      | .add => some (.int k (k.wrap (a + b)))
      | .sub => some (.int k (k.wrap (a - b)))
      | .mul => some (.int k (k.wrap (a * b)))
      | .quo => if b = 0 then none else some (.int k (k.wrap (a.tdiv b)))
      | .rem => if b = 0 then none else some (.int k (a.tmod b))
      | .and => some (.int k (k.wrap ((BitVec.ofInt k.bits a &&& BitVec.ofInt k.bits b).toNat : Int)))
      | .or => some (.int k (k.wrap ((BitVec.ofInt k.bits a ||| BitVec.ofInt k.bits b).toNat : Int)))
      | .xor => some (.int k (k.wrap ((BitVec.ofInt k.bits a ^^^ BitVec.ofInt k.bits b).toNat : Int)))
      | .andNot => some (.int k (k.wrap ((BitVec.ofInt k.bits a &&& ~~~ BitVec.ofInt k.bits b).toNat : Int)))
      | .eql => some (.bool (a == b))
      | .neq => some (.bool (a != b))
      | .lss => some (.bool (decide (a < b)))
      | .leq => some (.bool (decide (a ≤ b)))
      | .gtr => some (.bool (decide (a > b)))
      | .geq => some (.bool (decide (a ≥ b)))
      | _ => none
      else none
  | .str s, .str t =>
    match op with
    | .eql => some (.bool (s.toList == t.toList))
    | .neq => some (.bool (!(s.toList == t.toList)))
    | .lss => some (.bool (Op.bytesLess s.toList t.toList))
    | .leq => some (.bool (Op.bytesLess s.toList t.toList || s.toList == t.toList))
    | .gtr => some (.bool (!(Op.bytesLess s.toList t.toList || s.toList == t.toList)))
    | .geq => some (.bool (!(Op.bytesLess s.toList t.toList)))
    | .add => if s.size + t.size ≤ 9223372036854775807 then some (.str (s ++ t)) else none
    | _ => none
  | _, _ => none
theorem wrap_range (k : IntKind) (n : Int) : k.min ≤ k.wrap n ∧ k.wrap n ≤ k.max := by
  cases k <;> simp only [IntKind.min, IntKind.max, IntKind.wrap, IntKind.bits, IntKind.signed] <;> simp <;> (try split) <;> omega
theorem tmod_between (a b : Int) : (0 ≤ a → 0 ≤ a.tmod b ∧ a.tmod b ≤ a) ∧ (a < 0 → a ≤ a.tmod b ∧ a.tmod b ≤ 0) := by
  have key : ∀ n : Nat, 0 ≤ (n : Int).tmod b ∧ (n : Int).tmod b ≤ n := by
    intro n
    cases b with
    | ofNat m => show 0 ≤ ((n % m : Nat) : Int) ∧ ((n % m : Nat) : Int) ≤ n; have := Nat.mod_le n m; omega
    | negSucc m => show 0 ≤ ((n % (m + 1) : Nat) : Int) ∧ ((n % (m + 1) : Nat) : Int) ≤ n; have := Nat.mod_le n (m + 1); omega
  refine ⟨fun h => ?_, fun h => ?_⟩
  · obtain ⟨n, rfl⟩ := Int.eq_ofNat_of_zero_le h
    exact key n
  · obtain ⟨n, hn⟩ := Int.eq_ofNat_of_zero_le (show 0 ≤ -a by omega)
    have := key n
    rw [← hn, Int.neg_tmod] at this
    omega
theorem tmod_range (k : IntKind) (a b : Int) (h : k.min ≤ a ∧ a ≤ k.max) : k.min ≤ a.tmod b ∧ a.tmod b ≤ k.max := by
  have h0 : k.min ≤ 0 ∧ 0 ≤ k.max := by cases k <;> simp [IntKind.min, IntKind.max, IntKind.bits, IntKind.signed]
  have := tmod_between a b
  omega
theorem fdiv_between (a : Int) (m : Int) (hm : 0 < m) : (0 ≤ a → 0 ≤ a.fdiv m ∧ a.fdiv m ≤ a) ∧ (a < 0 → a ≤ a.fdiv m ∧ a.fdiv m ≤ 0) := by
  rw [Int.fdiv_eq_ediv_of_nonneg _ (by omega)]
  have h1 := Int.mul_ediv_add_emod a m
  have h2 := Int.emod_nonneg a (show m ≠ 0 by omega)
  refine ⟨fun h => ⟨Int.ediv_nonneg h (by omega), Int.ediv_le_self _ h⟩, fun h => ⟨?_, ?_⟩⟩
  · rw [Int.le_ediv_iff_mul_le hm]
    have : a * m ≤ a * 1 := Int.mul_le_mul_of_nonpos_left (by omega) (by omega)
    omega
  · have := Int.ediv_neg_of_neg_of_pos h hm
    omega
theorem fdiv_range (k : IntKind) (a : Int) (n : Nat) (h : k.min ≤ a ∧ a ≤ k.max) : k.min ≤ a.fdiv (2 ^ n) ∧ a.fdiv (2 ^ n) ≤ k.max := by
  have h0 : k.min ≤ 0 ∧ 0 ≤ k.max := by cases k <;> simp [IntKind.min, IntKind.max, IntKind.bits, IntKind.signed]
  have := fdiv_between a (2 ^ n) (Int.pow_pos (by omega))
  omega
end Go.Abs

/-
  THE ABSTRACT LAYER, 4: what the abstract operations yield ('pureOp'), how they are read off the program's ('cOp'), and that memory follows. Over any program.
-/
namespace Go.Abs
open Go Go.RowKit
/-- What lies behind a pointer. -/
def deref (A : AState) : AV → Option AV
  | .ref x => some x
  | .ptr n p => match A.o n with
    | some (.box x) => x.at p
    | _ => none
  | _ => none
mutual
def AV.closed : AV → Bool
  | .agg fs => AV.closeds fs
  | .slice _ es => AV.closeds es
  | .ref x => x.closed
  | .func _ caps => AV.closeds caps
  | .iface _ v => v.closed
  | .ptr _ _ | .own _ _ | .view _ _ _ _ _ | .undef | .top | .tuple _ => false
  | .bool _ | .int _ _ | .str _ | .nilp | .nilf | .nili | .raw _ | .nils _ | .c0 _ => true
def AV.closeds : List AV → Bool
  | [] => true
  | x :: xs => x.closed && AV.closeds xs
end
mutual
/-- The value for others to hold: pointers to the frame's own variables and rows become what they hold. -/
def fin (bx : Bool) (A : AState) : AV → Option AV
  | .ptr n p => if bx then (match deref A (.ptr n p) with | some x => if x.closed then some (.ref x) else none | none => none) else none
  | .own n k => match A.o n with
    | some (.row _ sz es) => if k = es.length ∧ AV.closeds es = true then some (.slice sz es) else none
    | _ => none
  | .view n p sz lo k => if bx then (match deref A (.ptr n p) with
    | some (.agg fs) => if AV.closeds ((fs.drop lo).take k) = true then some (.slice sz ((fs.drop lo).take k)) else none
    | _ => none) else none
  | .nils sz => some (.slice sz [])
  | .c0 sz => some (.slice sz [])
  | .func f caps => (fins bx A caps).map (.func f)
  | .agg fs => (fins bx A fs).map .agg
  | .tuple _ => none
  | .undef => none
  | .top => none
  | .bool b => some (.bool b)
  | .int k n => some (.int k n)
  | .str s => some (.str s)
  | .nilp => some .nilp
  | .nilf => some .nilf
  | .nili => some .nili
  | .raw u => some (.raw u)
  | .slice sz es => if AV.closeds es then some (.slice sz es) else none
  | .ref x => if x.closed then some (.ref x) else none
  | .iface t v => if v.closed then some (.iface t v) else none
def fins (bx : Bool) (A : AState) : List AV → Option (List AV)
  | [] => some []
  | x :: xs => match fin bx A x, fins bx A xs with
    | some y, some ys => some (y :: ys)
    | _, _ => none
end
def okLd (s : Option Nat) (x : AV) : Bool := match s with
  | none => !x.isAgg
  | some n => x.isAgg && x.size == n
def AV.isVal : AV → Bool
  | .undef | .top | .tuple _ => false
  | _ => true
/-- Elements lie side by side. -/
def evenly (n esz : Nat) (fs : List AV) : Bool := fs.length == n && fs.all fun f => f.size == esz
def setParts (zs : List AV) : List (Nat × AV) → Option (List AV)
  | [] => some zs
  | (i, v) :: rest => match zs[i]? with
    | some z => if v.isVal = true ∧ v.size = z.size then setParts (zs.set i v) rest else none
    | none => none
def bound (x : Option AV) (d : Int) : Option Int := match x with
  | none => some d
  | some (.int _ n) => some n
  | _ => none
def sliceOf (sz : Nat) (es : List AV) (lo hi mx : Option AV) : Option AV :=
  match bound hi es.length with
  | none => none
  | some h => match bound mx es.length with
    | none => none
    | some m => match bound lo 0 with
      | none => none
      | some l => if 0 ≤ l ∧ l ≤ h ∧ h ≤ m ∧ m ≤ es.length then
          (if mx.isSome ∧ m = l then some (.c0 sz) else some (.slice sz ((es.take h.toNat).drop l.toNat))) else none
/-- A part of a part. -/
def sliceV (n : Nat) (p : List Nat) (sz lo k total : Nat) (lo' hi' mx' : Option AV) : Option AV :=
  match bound hi' k with
  | none => none
  | some h => match bound lo' 0 with
    | none => none
    | some l => match mx' with
      | none => if 0 ≤ l ∧ l ≤ h ∧ h ≤ ((total - lo : Nat) : Int) then (if l = ((total - lo : Nat) : Int) then some (.c0 sz) else some (.view n p sz (lo + l.toNat) (h.toNat - l.toNat))) else none
      | some (.int _ m) => if 0 ≤ l ∧ l ≤ h ∧ h ≤ m ∧ m ≤ ((total - lo : Nat) : Int) then some .top else none
      | _ => none
def andO (a b : Option Bool) : Option Bool := match a, b with
  | some x, some y => some (x && y)
  | _, _ => none
mutual
/-- '==', part by part. -/
def eqE : ETy → AV → AV → Option Bool
  | .i k, x, y => match x, y with
    | .int k1 a, .int k2 b => if k1 = k ∧ k2 = k then some (a == b) else none
    | _, _ => none
  | .b, x, y => match x, y with
    | .bool a, .bool b => some (a == b)
    | _, _ => none
  | .s, x, y => match x, y with
    | .str a, .str b => some (a.toList == b.toList)
    | _, _ => none
  | .st l, x, y => match x, y with
    | .agg fs, .agg gs => eqEs l fs gs
    | _, _ => none
  | .ar n e, x, y => match x, y with
    | .agg fs, .agg gs => if fs.length = n ∧ gs.length = n then (fs.zip gs).foldr (fun p acc => andO (eqE e p.1 p.2) acc) (some true) else none
    | _, _ => none
def eqEs : List ETy → List AV → List AV → Option Bool
  | [], fs, gs => match fs, gs with
    | [], [] => some true
    | _, _ => none
  | t :: ts, fs, gs => match fs, gs with
    | f :: fs, g :: gs => andO (eqE t f g) (eqEs ts fs gs)
    | _, _ => none
end
/-- All bits turned. -/
def cplI (k : IntKind) (n : Int) : Int := k.wrap ((BitVec.ofInt k.bits (if k.signed then -1 else k.max) ^^^ BitVec.ofInt k.bits n).toNat : Int)
def pureOp (A : AState) : AOp → Option AV
  | .mv x => some (ev A x)
  | .pick c a b => match ev A c with | .bool t => some (if t then ev A a else ev A b) | _ => none
  | .bin op x y => aBin op (ev A x) (ev A y)
  | .eqv ty neg x y => (eqE ty (ev A x) (ev A y)).map fun b => .bool (if neg then !b else b)
  | .nilS neg x => match ev A x with
    | .nils _ => some (.bool (!neg))
    | .slice _ es => if es.isEmpty then none else some (.bool neg)
    | .view _ _ _ _ _ => some (.bool neg)
    | _ => none
  | .conv k x => match ev A x with | .int _ n => some (.int k (k.wrap n)) | _ => none
  | .un op x => match op, ev A x with
    | .not, .bool b => some (.bool !b)
    | .neg, .int k n => some (.int k (k.wrap (0 - n)))
    | .xor, .int k n => some (.int k (cplI k n))
    | _, _ => none
  | .ld s x => match deref A (ev A x) with | some v => if okLd s v then some v else none | none => none
  | .fa f off x => match ev A x with
    | .ref (.agg fs) => match fs[f]? with | some v => if AV.sizes (fs.take f) = off then some (.ref v) else none | none => none
    | .ptr n p => match deref A (.ptr n p) with | some (.agg fs) => if f < fs.length ∧ AV.sizes (fs.take f) = off then some (.ptr n (p ++ [f])) else none | _ => none
    | _ => none
  | .fl f off s x => match ev A x with
    | .agg fs => match fs[f]? with | some v => if AV.sizes (fs.take f) = off ∧ okLd s v = true then some v else none | none => none
    | _ => none
  | .ia n esz x i => match ev A i with
    | .int _ k => if 0 ≤ k ∧ k < n then (match ev A x with
      | .ref (.agg fs) => if evenly n esz fs then (fs[k.toNat]?).map .ref else none
      | .ptr m p => match deref A (.ptr m p) with | some (.agg fs) => if evenly n esz fs then some (.ptr m (p ++ [k.toNat])) else none | _ => none
      | _ => none) else none
    | _ => none
  | .is esz x i => match ev A i with
    | .int _ k => match ev A x with
      | .slice sz es => if sz = esz ∧ 0 ≤ k ∧ k < es.length then (es[k.toNat]?).map .ref else none
      | .own m l => match A.o m with | some (.row _ sz es) => if l = es.length ∧ sz = esz ∧ 0 ≤ k ∧ k < es.length then (es[k.toNat]?).map .ref else none | _ => none
      | .view m p sz lo l => match deref A (.ptr m p) with | some (.agg _) => if sz = esz ∧ 0 ≤ k ∧ k < l then some (.ptr m (p ++ [lo + k.toNat])) else none | _ => none
      | _ => none
    | _ => none
  | .ix n esz s x i => match ev A i with
    | .int _ k => if 0 ≤ k ∧ k < n then (match ev A x with
      | .agg fs => if evenly n esz fs then (match fs[k.toNat]? with | some v => if okLd s v then some v else none | none => none) else none
      | _ => none) else none
    | _ => none
  | .len x => match ev A x with
    | .slice _ es => some (.int .i64 es.length)
    | .nils _ | .c0 _ => some (.int .i64 0)
    | .own m l => match A.o m with | some (.row _ _ es) => if l = es.length then some (.int .i64 es.length) else none | _ => none
    | .view _ _ _ _ k => some (.int .i64 k)
    | _ => none
  | .cap x => match ev A x with
    | .nils _ | .c0 _ => some (.int .i64 ((0 : Nat) : Int))
    | .view n p _ lo _ => match deref A (.ptr n p) with | some (.agg fs) => some (.int .i64 ((fs.length - lo : Nat) : Int)) | _ => none
    | _ => none
  | .bs0 esz => some (.c0 esz)
  | .lenT x => match ev A x with
    | .str s => some (.int .i64 s.size)
    | _ => none
  | .va n esz x => match ev A x with
    | .ptr m p => match deref A (.ptr m p) with | some (.agg fs) => if evenly n esz fs = true ∧ n ≤ maxLen ∧ n ≠ 0 then some (.view m p esz 0 n) else none | _ => none
    | .ref (.agg fs) => if evenly n esz fs = true ∧ n ≤ maxLen ∧ n ≠ 0 then some (.slice esz fs) else none
    | _ => none
  | .sl esz x lo hi mx => match ev A x with
    | .slice sz es => if sz = esz then sliceOf sz es (lo.map (ev A)) (hi.map (ev A)) (mx.map (ev A)) else none
    | .nils sz => if sz = esz then sliceOf sz [] (lo.map (ev A)) (hi.map (ev A)) (mx.map (ev A)) else none
    | .c0 sz => if sz = esz then sliceOf sz [] (lo.map (ev A)) (hi.map (ev A)) (mx.map (ev A)) else none
    | .view n p sz l0 k => match deref A (.ptr n p) with | some (.agg fs) => if sz = esz then sliceV n p sz l0 k fs.length (lo.map (ev A)) (hi.map (ev A)) (mx.map (ev A)) else none | _ => none
    | _ => none
  | .bld zs parts => (setParts zs (parts.map fun p => (p.1, ev A p.2))).map .agg
  | .bs esz parts => match fins false A (parts.map (ev A)) with
    | some es => if (es.all fun e => e.size == esz) ∧ AV.closeds es then some (.slice esz es) else none
    | none => none
  | .ext x i => match ev A x with | .tuple fs => fs[i]? | _ => none
  | .mk f caps => if ((caps.map (ev A)).all fun y => y.isVal) = true then some (.func f (caps.map (ev A))) else none
  | _ => none
/-! ### closed values stand for themselves -/
mutual
theorem rc.clo {w : World} {D D' : Dom} {E E' : Env} (hD : ∀ b o, D b o → D' b o) : ∀ (x : AV) (cs : List Value), x.closed = true → rc w D E x cs → rc w D' E' x cs
  | .agg fs, cs, hc, hr => by simp only [rc, AV.closed] at *; exact rcs.clo hD fs cs hc hr
  | .bool b, cs, _, hr => by simpa only [rc] using hr
  | .int k n, cs, _, hr => by simpa only [rc] using hr
  | .str s, cs, _, hr => by simpa only [rc] using hr
  | .nilp, cs, _, hr => by simpa only [rc] using hr
  | .nilf, cs, _, hr => by simpa only [rc] using hr
  | .nili, cs, _, hr => by simpa only [rc] using hr
  | .raw _, cs, _, hr => by simpa only [rc] using hr
  | .nils _, cs, _, hr => by simpa only [rc] using hr
  | .c0 _, cs, _, hr => by simpa only [rc] using hr
  | .slice sz es, cs, hc, hr => by
    simp only [rc, AV.closed] at *
    obtain ⟨a, cap, h1, h2, h3, h4, h5⟩ := hr
    refine ⟨a, cap, h1, h2, h3, ?_, h5⟩
    rcases h4 with h4 | ⟨b, off, cs', h6, h7, h8⟩
    · exact .inl h4
    · exact .inr ⟨b, off, cs', h6, fun j v hj => ⟨(h7 j v hj).1, hD _ _ (h7 j v hj).2⟩, rcs.clo hD es cs' hc h8⟩
  | .ref x, cs, hc, hr => by
    simp only [rc, AV.closed] at *
    obtain ⟨b, off, cs', h1, h2, h3⟩ := hr
    exact ⟨b, off, cs', h1, fun j v hj => ⟨(h2 j v hj).1, hD _ _ (h2 j v hj).2⟩, rc.clo hD x cs' hc h3⟩
  | .func f caps, cs, hc, hr => by
    simp only [rc, AV.closed] at *
    obtain ⟨vs, h1, h2⟩ := hr
    exact ⟨vs, h1, rvs.clo hD caps vs hc h2⟩
  | .iface t v, cs, hc, hr => by
    simp only [rc, AV.closed] at *
    obtain ⟨u, cs', h1, h2, h3⟩ := hr
    exact ⟨u, cs', h1, h2, rc.clo hD v cs' hc h3⟩
  | .ptr n p, _, hc, _ => by simp [AV.closed] at hc
  | .own n k, _, hc, _ => by simp [AV.closed] at hc
  | .view n p _ _ _, _, hc, _ => by simp [AV.closed] at hc
  | .undef, _, hc, _ => by simp [AV.closed] at hc
  | .top, _, hc, _ => by simp [AV.closed] at hc
  | .tuple _, _, hc, _ => by simp [AV.closed] at hc
theorem rcs.clo {w : World} {D D' : Dom} {E E' : Env} (hD : ∀ b o, D b o → D' b o) : ∀ (xs : List AV) (cs : List Value), AV.closeds xs = true → rcs w D E xs cs → rcs w D' E' xs cs
  | [], cs, _, hr => by simpa only [rcs] using hr
  | x :: xs, cs, hc, hr => by
    simp only [rcs, AV.closeds, Bool.and_eq_true] at *
    obtain ⟨c1, c2, h1, h2, h3⟩ := hr
    exact ⟨c1, c2, h1, rc.clo hD x c1 hc.1 h2, rcs.clo hD xs c2 hc.2 h3⟩
theorem rvs.clo {w : World} {D D' : Dom} {E E' : Env} (hD : ∀ b o, D b o → D' b o) : ∀ (xs : List AV) (vs : List Value), AV.closeds xs = true → rvs w D E xs vs → rvs w D' E' xs vs
  | [], vs, _, hr => by simpa only [rvs] using hr
  | x :: xs, vs, hc, hr => by
    simp only [rvs, AV.closeds, Bool.and_eq_true] at *
    obtain ⟨v, rest, cs, h1, h2, h3, h4⟩ := hr
    exact ⟨v, rest, cs, h1, h2, rc.clo hD x cs hc.1 h3, rvs.clo hD xs rest hc.2 h4⟩
end
/-- Cells of a block of the frame's own, read. -/
theorem reads_of_heap {w : World} {D : Dom} {b : Nat} {cs : Array Value} {T : TypeId} {fz : Nat × Nat} (hb : w.heap[b]? = some (.cells cs T fz)) {c1 c2 c3 : List Value} (hc : cs.toList = c1 ++ c2 ++ c3)
    (hD : ∀ o, o < c1.length + c2.length → D b o) : reads w D b c1.length c2 := by
  intro j v hj
  have hjl : j < c2.length := (List.getElem?_eq_some_iff.1 hj).1
  refine ⟨?_, hD _ (by omega)⟩
  have e : cs[c1.length + j]? = some v := by
    rw [← Array.getElem?_toList, hc, List.append_assoc, List.getElem?_append_right (by omega), Nat.add_sub_cancel_left, List.getElem?_append_left (by omega)]
    exact hj
  simp [World.cell?, hb, e]
section
variable {c : Ctx} {A : AState} {a : Act} {w : World} {D : Dom} {E : Env}
theorem SimW.box (h : SimW c A a w D E) {n : Nat} {x : AV} (hn : A.o n = some (.box x)) :
    ∃ b cs T, E n = some (.bx b x.sh) ∧ c.Mine b ∧ w.heap[b]? = some (.cells cs T (0, 0)) ∧ rc w D E x cs.toList ∧ ∀ o, ¬ D b o := by
  have := h.obj n
  rw [hn] at this
  exact this
theorem SimW.row (h : SimW c A a w D E) {n sz : Nat} {T : TypeId} {es : List AV} (hn : A.o n = some (.row T sz es)) :
    ∃ blk, E n = some (.rw blk es.length) ∧ (∀ e ∈ es, e.size = sz) ∧ match blk with
    | none => es = []
    | some (b, cap) => ∃ cs pre rest, c.Mine b ∧ w.heap[b]? = some (.cells cs T (0, 0)) ∧ cs.toList = pre ++ rest ∧ rcs w D E es pre ∧
        cs.size = cap * sz ∧ es.length ≤ cap ∧ cap ≤ maxLen ∧ ∀ o, D b o → o < pre.length := by
  have := h.obj n
  rw [hn] at this
  exact this
/-- The part of a variable at a path: where it lies, what its cells are. -/
theorem SimW.at (h : SimW c A a w D E) {n : Nat} {p : List Nat} {x : AV} (hx : deref A (.ptr n p) = some x) :
    ∃ y b cs T off c1 c2 c3, A.o n = some (.box y) ∧ E n = some (.bx b y.sh) ∧ c.Mine b ∧ w.heap[b]? = some (.cells cs T (0, 0)) ∧ y.at p = some x ∧ y.sh.off p = some off ∧
      cs.toList = c1 ++ c2 ++ c3 ∧ c1.length = off ∧ rc w D E x c2 ∧ rc w D E y cs.toList ∧ ∀ o, ¬ D b o := by
  simp only [deref] at hx
  split at hx
  · rename_i y hn
    obtain ⟨b, cs, T, h1, h2, h3, h4, h5⟩ := h.box hn
    obtain ⟨off, c1, c2, c3, h6, h7, h8, h9⟩ := rc_at p y x _ h4 hx
    exact ⟨y, b, cs, T, off, c1, c2, c3, hn, h1, h2, h3, hx, h6, h7, h8, h9, h4, h5⟩
  · cases hx
/-- What is behind a pointer that a slot holds. -/
theorem SimW.behind (h : SimW c A a w D E) {x y : AV} {v : Value} (hv : rv w D E x v) (hx : deref A x = some y) :
    ∃ b off cs, v = .pointer (some ⟨b, off, none⟩) ∧ (∀ j u, cs[j]? = some u → w.cell? ⟨b, off + j, none⟩ = some u) ∧ rc w D E y cs := by
  cases x with
  | ref z =>
    simp only [deref, Option.some.injEq] at hx
    subst hx
    obtain ⟨b, off, cs, h1, h2, h3⟩ := rv_ref hv
    exact ⟨b, off, cs, h1, fun j u hj => (h2 j u hj).1, h3⟩
  | ptr n p =>
    obtain ⟨b, sh, off, h1, h2, h3⟩ := rv_ptr hv
    obtain ⟨z, b', cs, T, off', c1, c2, c3, k1, k2, _, k3, _, k5, k6, k7, k8, _, _⟩ := h.at hx
    rw [k2] at h1
    simp only [Option.some.injEq, Ent.bx.injEq] at h1
    obtain ⟨rfl, rfl⟩ := h1
    rw [k5, Option.some.injEq] at h2
    subst h2
    refine ⟨b', off', c2, h3, fun j u hj => ?_, k8⟩
    have := reads_of_heap (D := fun _ _ => True) k3 k6 (fun _ _ => trivial)
    rw [k7] at this
    exact (this j u hj).1
  | _ => simp [deref] at hx
theorem rcs_app {w : World} {D : Dom} {E : Env} : ∀ (xs ys : List AV) (cs : List Value), rcs w D E (xs ++ ys) cs → ∃ c1 c2, cs = c1 ++ c2 ∧ rcs w D E xs c1 ∧ rcs w D E ys c2
  | [], ys, cs, hr => ⟨[], cs, rfl, by simp [rcs], hr⟩
  | x :: xs, ys, cs, hr => by
    simp only [List.cons_append, rcs] at hr
    obtain ⟨d1, d2, rfl, k1, k2⟩ := hr
    obtain ⟨e1, e2, rfl, k3, k4⟩ := rcs_app xs ys d2 k2
    exact ⟨d1 ++ e1, e2, by simp, by simp only [rcs]; exact ⟨d1, e1, rfl, k1, k3⟩, k4⟩
theorem shs_sz {fs : List AV} {sz : Nat} (h : ∀ s ∈ AV.shs fs, s.size = sz) : ∀ f ∈ fs, f.size = sz := by
  intro f hf
  rw [← AV.sh_size]
  exact h _ (by rw [AV.shs_eq_map]; exact List.mem_map.2 ⟨f, hf, rfl⟩)
/-- The cells of k elements from lo on. -/
theorem rcs_cut {w : World} {D : Dom} {E : Env} {fs : List AV} {cs : List Value} {sz : Nat} (hr : rcs w D E fs cs) (hev : ∀ f ∈ fs, f.size = sz) (lo k : Nat) (h : lo + k ≤ fs.length) :
    ∃ d1 d2 d3, cs = d1 ++ (d2 ++ d3) ∧ d1.length = lo * sz ∧ rcs w D E ((fs.drop lo).take k) d2 ∧ rcs w D E ((fs.drop lo).drop k) d3 := by
  have e1 : fs = fs.take lo ++ ((fs.drop lo).take k ++ (fs.drop lo).drop k) := by rw [List.take_append_drop, List.take_append_drop]
  rw [e1] at hr
  obtain ⟨d1, d', rfl, q1, q2⟩ := rcs_app _ _ _ hr
  obtain ⟨d2, d3, rfl, q3, q4⟩ := rcs_app _ _ _ q2
  refine ⟨d1, d2, d3, rfl, ?_, q3, q4⟩
  rw [rcs.length _ _ q1, AV.sizes_const _ (fun x hx => hev x (List.mem_of_mem_take hx)), List.length_take]
  congr 1
  omega
/-- What others may be handed: 'D'' holds all that may be read, the rows' own cells, and, where 'bx', the variables' too. -/
structure Wide (bx : Bool) (A : AState) (D : Dom) (E : Env) (D' : Dom) : Prop where
  dom : ∀ b o, D b o → D' b o
  row : ∀ n T sz es b cap, A.o n = some (.row T sz es) → E n = some (.rw (some (b, cap)) es.length) → ∀ o, o < es.length * sz → D' b o
  box : bx = true → ∀ n x b sh, A.o n = some (.box x) → E n = some (.bx b sh) → ∀ o, o < x.size → D' b o
/-- What the one state's objects are the other's are too. -/
def Up (A A' : AState) : Prop := ∀ n x, A.o n = some x → A'.o n = some x
theorem deref_up {A A' : AState} (hu : Up A A') {x v : AV} (h : deref A x = some v) : deref A' x = some v := by
  cases x <;> simp only [deref] at h ⊢ <;> try exact h
  rename_i n p
  cases ho : A.o n with
  | none => rw [ho] at h; cases h
  | some y => rw [ho] at h; rw [hu n y ho]; exact h
theorem deref_box {A0 A : AState} (hu : Up A0 A) {n : Nat} {p : List Nat} {x z : AV} (h : deref A0 (.ptr n p) = some x) (hz : A.o n = some (.box z)) : A0.o n = some (.box z) := by
  simp only [deref] at h
  split at h
  · rename_i y hy
    have := hu n _ hy
    rw [hz] at this
    rw [hy, ← this]
  · cases h
mutual
theorem fin_rc (h : SimW c A a w D E) {bx : Bool} {A0 : AState} (hu : Up A0 A) {D' : Dom} {E' : Env} (hw : Wide bx A0 D E D') : ∀ (x y : AV) (cs : List Value), rc w D E x cs → fin bx A0 x = some y → rc w D' E' y cs
  | .ptr n p, y, cs, hr, hf => by
    simp only [fin] at hf
    split at hf
    case isFalse => cases hf
    rename_i hbx
    split at hf
    case h_2 => cases hf
    rename_i x hx
    split at hf
    case isFalse => cases hf
    rename_i hcl
    simp only [Option.some.injEq] at hf
    subst hf
    obtain ⟨z, b', cs', T, off', c1, c2, c3, k1, k2, _, k3, k4, k5, k6, k7, k8, k9, _⟩ := h.at (deref_up hu hx)
    have k1 := deref_box hu hx k1
    simp only [rc] at hr ⊢
    obtain ⟨b, sh, off, h1, h2, h3⟩ := hr
    rw [k2] at h1
    simp only [Option.some.injEq, Ent.bx.injEq] at h1
    obtain ⟨rfl, rfl⟩ := h1
    rw [k5, Option.some.injEq] at h2
    subst h2
    have hsz := rc.length z _ k9
    rw [k6] at hsz
    simp only [List.length_append] at hsz
    refine ⟨b', off', c2, h3, ?_, rc.clo hw.dom x c2 hcl k8⟩
    rw [← k7]
    exact reads_of_heap k3 k6 (fun o ho => hw.box hbx n z b' _ k1 k2 o (by omega))
  | .own n k, y, cs, hr, hf => by
    simp only [fin] at hf
    split at hf
    case h_2 => cases hf
    rename_i T sz es hn
    split at hf
    case isFalse => cases hf
    rename_i hk
    obtain ⟨rfl, hcl⟩ := hk
    simp only [Option.some.injEq] at hf
    subst hf
    simp only [rc] at hr
    obtain ⟨blk, l, h1, h2, _, h4⟩ := hr
    obtain ⟨blk', k1, k2, k3⟩ := h.row (hu n _ hn)
    rw [k1] at h1
    simp only [Option.some.injEq, Ent.rw.injEq] at h1
    obtain ⟨rfl, rfl⟩ := h1
    have h4 := h4 rfl
    cases blk' with
    | none =>
      simp only at k3 h4
      subst k3
      simp only [rc]
      exact ⟨none, 0, by simpa using h4, by simp, by simp [maxLen], by simp, by simp⟩
    | some bc =>
      obtain ⟨b, cap⟩ := bc
      simp only at h4
      obtain ⟨cs', pre, rest, k4, k5, k6, k7, k8, k9, k10, k11⟩ := k3
      simp only [rc]
      refine ⟨some ⟨b, 0, none⟩, cap, h4, k9, k10, .inr ⟨b, 0, pre, rfl, ?_, rcs.clo hw.dom es pre hcl k7⟩, k2⟩
      have hp : pre.length = es.length * sz := by rw [rcs.length _ _ k7, AV.sizes_const _ k2]
      have := reads_of_heap (D := D') (c1 := []) k5 (by simpa using k6) (fun o ho => hw.row n T sz es b cap hn k1 o (by simp at ho; omega))
      simpa using this
  | .view n p sz lo k, y, cs, hr, hf => by
    simp only [fin] at hf
    split at hf
    case isFalse => cases hf
    rename_i hbx
    split at hf
    case h_2 => cases hf
    rename_i fs hx
    split at hf
    case isFalse => cases hf
    rename_i hcl
    simp only [Option.some.injEq] at hf
    subst hf
    obtain ⟨z, b', cs', T, off', c1, c2, c3, k1, k2, _, k3, k4, k5, k6, k7, k8, k9, _⟩ := h.at (deref_up hu hx)
    have k1 := deref_box hu hx k1
    simp only [rc] at hr k8 ⊢
    obtain ⟨b, sh, off, l, h1, h2, h3, h4, h5, h6, h7⟩ := hr
    rw [k2] at h1
    simp only [Option.some.injEq, Ent.bx.injEq] at h1
    obtain ⟨rfl, rfl⟩ := h1
    rw [k5, Option.some.injEq] at h2
    subst h2
    rw [sh_part p z _ k4] at h3
    simp only [AV.sh, Option.some.injEq, Sh.many.injEq] at h3
    subst h3
    have hsz := rc.length z _ k9
    rw [k6] at hsz
    rw [AV.shs_eq_map, List.length_map] at h4 h5 h6
    have hev := shs_sz h7
    obtain ⟨d1, d2, d3, rfl, q1, q2, q3⟩ := rcs_cut k8 hev lo k h6
    simp only [List.length_append] at hsz
    have hlen : ((fs.drop lo).take k).length = k := by rw [List.length_take, List.length_drop]; omega
    refine ⟨some ⟨b', off' + lo * sz, none⟩, fs.length - lo, by rw [hlen]; exact h4, by rw [hlen]; omega, by omega, .inr ⟨b', off' + lo * sz, d2, rfl, ?_, rcs.clo hw.dom _ d2 hcl q2⟩, ?_⟩
    · have := reads_of_heap (D := D') (c1 := c1 ++ d1) (c2 := d2) (c3 := d3 ++ c3) k3 (by rw [k6]; simp) (fun o ho => hw.box hbx n z b' _ k1 k2 o (by rw [List.length_append] at ho; omega))
      rw [List.length_append, k7, q1] at this
      exact this
    · intro e he
      exact hev e (List.mem_of_mem_drop (List.mem_of_mem_take he))
  | .nils sz, y, cs, hr, hf => by
    simp only [fin, Option.some.injEq] at hf
    subst hf
    simp only [rc] at *
    exact ⟨none, 0, by simpa using hr, by simp, by simp [maxLen], by simp, by simp⟩
  | .c0 sz, y, cs, hr, hf => by
    simp only [fin, Option.some.injEq] at hf
    subst hf
    simp only [rc] at *
    obtain ⟨ad, hr⟩ := hr
    exact ⟨ad, 0, by simpa using hr, by simp, by simp [maxLen], by simp, by simp⟩
  | .func f caps, y, cs, hr, hf => by
    simp only [fin, Option.map_eq_some_iff] at hf
    obtain ⟨ys, hy, rfl⟩ := hf
    simp only [rc] at *
    obtain ⟨vs, h1, h2⟩ := hr
    exact ⟨vs, h1, fin_rvs h hu hw caps ys vs h2 hy⟩
  | .agg fs, y, cs, hr, hf => by
    simp only [fin, Option.map_eq_some_iff] at hf
    obtain ⟨ys, hy, rfl⟩ := hf
    simp only [rc] at *
    exact fin_rcs h hu hw fs ys cs hr hy
  | .tuple _, _, _, _, hf => by simp [fin] at hf
  | .undef, _, _, _, hf => by simp [fin] at hf
  | .top, _, _, _, hf => by simp [fin] at hf
  | .bool b, y, cs, hr, hf => by simp only [fin, Option.some.injEq] at hf; subst hf; simpa only [rc] using hr
  | .int k n, y, cs, hr, hf => by simp only [fin, Option.some.injEq] at hf; subst hf; simpa only [rc] using hr
  | .str s, y, cs, hr, hf => by simp only [fin, Option.some.injEq] at hf; subst hf; simpa only [rc] using hr
  | .nilp, y, cs, hr, hf => by simp only [fin, Option.some.injEq] at hf; subst hf; simpa only [rc] using hr
  | .nilf, y, cs, hr, hf => by simp only [fin, Option.some.injEq] at hf; subst hf; simpa only [rc] using hr
  | .nili, y, cs, hr, hf => by simp only [fin, Option.some.injEq] at hf; subst hf; simpa only [rc] using hr
  | .raw _, y, cs, hr, hf => by simp only [fin, Option.some.injEq] at hf; subst hf; simpa only [rc] using hr
  | .slice sz es, y, cs, hr, hf => by
    simp only [fin] at hf
    split at hf
    · rename_i hc; simp only [Option.some.injEq] at hf; subst hf; exact rc.clo hw.dom _ cs (by simpa [AV.closed] using hc) hr
    · cases hf
  | .ref x, y, cs, hr, hf => by
    simp only [fin] at hf
    split at hf
    · rename_i hc; simp only [Option.some.injEq] at hf; subst hf; exact rc.clo hw.dom _ cs (by simpa [AV.closed] using hc) hr
    · cases hf
  | .iface t v, y, cs, hr, hf => by
    simp only [fin] at hf
    split at hf
    · rename_i hc; simp only [Option.some.injEq] at hf; subst hf; exact rc.clo hw.dom _ cs (by simpa [AV.closed] using hc) hr
    · cases hf
theorem fin_rcs (h : SimW c A a w D E) {bx : Bool} {A0 : AState} (hu : Up A0 A) {D' : Dom} {E' : Env} (hw : Wide bx A0 D E D') : ∀ (xs ys : List AV) (cs : List Value), rcs w D E xs cs → fins bx A0 xs = some ys → rcs w D' E' ys cs
  | [], ys, cs, hr, hf => by simp only [fins, Option.some.injEq] at hf; subst hf; simpa only [rcs] using hr
  | x :: xs, ys, cs, hr, hf => by
    simp only [fins] at hf
    split at hf
    · rename_i y ys' h1 h2
      simp only [Option.some.injEq] at hf
      subst hf
      simp only [rcs] at *
      obtain ⟨c1, c2, e, k1, k2⟩ := hr
      exact ⟨c1, c2, e, fin_rc h hu hw x y c1 k1 h1, fin_rcs h hu hw xs ys' c2 k2 h2⟩
    · cases hf
theorem fin_rvs (h : SimW c A a w D E) {bx : Bool} {A0 : AState} (hu : Up A0 A) {D' : Dom} {E' : Env} (hw : Wide bx A0 D E D') : ∀ (xs ys : List AV) (vs : List Value), rvs w D E xs vs → fins bx A0 xs = some ys → rvs w D' E' ys vs
  | [], ys, cs, hr, hf => by simp only [fins, Option.some.injEq] at hf; subst hf; simpa only [rvs] using hr
  | x :: xs, ys, cs, hr, hf => by
    simp only [fins] at hf
    split at hf
    · rename_i y ys' h1 h2
      simp only [Option.some.injEq] at hf
      subst hf
      simp only [rvs] at *
      obtain ⟨v, rest, c1, e, k1, k2, k3⟩ := hr
      refine ⟨v, rest, c1, e, ?_, fin_rc h hu hw x y c1 k2 h1, fin_rvs h hu hw xs ys' rest k3 h2⟩
      have : y.isAgg = x.isAgg := by
        cases x <;> simp only [fin] at h1 <;> first
          | (simp at h1; done)
          | (simp only [Option.some.injEq] at h1; subst h1; rfl)
          | (simp only [Option.map_eq_some_iff] at h1; obtain ⟨z, _, rfl⟩ := h1; rfl)
          | ((repeat' split at h1) <;> first | (simp at h1; done) | (simp only [Option.some.injEq] at h1; subst h1; rfl))
      unfold isPack at *
      rw [this]
      exact k1
    · cases hf
end
end
end Go.Abs

/-
  THE ABSTRACT LAYER, 5: how the program's operations are read ('cOp'), and that what the abstract ones yield is what the program's yield. Over any program.
-/
namespace Go.Abs
open Go Go.RowKit
/-- How a value of a type is loaded: as one cell, or as so many together. -/
def ldK (P : Program) (t : TypeId) : Option (Option Nat) := match P.underlying t with
  | some (.struct _) | some (.array _ _) => some (some (P.cellsOf t))
  | some _ => some none
  | none => none
/-! ### zero values -/
def zAV (P : Program) : Nat → TypeId → Option AV
  | 0, _ => none
  | d + 1, t => match P.underlying t with
    | some .bool => some (.bool false)
    | some (.int k) => some (.int k 0)
    | some .string => some (.str ByteArray.empty)
    | some (.pointer _) => some .nilp
    | some (.slice e) => some (.nils (P.cellsOf e))
    | some (.func _ _ _) => some .nilf
    | some (.interface _) => some .nili
    | some (.struct fs) => (fs.toList.mapM fun f => zAV P d f.type).map .agg
    | some (.array n e) => (zAV P d e).map fun z => .agg (List.replicate n z)
    | _ => none
def cell1 : AV → Value → Bool
  | .bool b, .bool b' => b == b'
  | .int k n, .int k' n' => k == k' && n == n' && decide (k.min ≤ n ∧ n ≤ k.max)
  | .str s, .string t => s.size == 0 && t.size == 0
  | .nilp, .pointer none => true
  | .nils _, .slice none 0 0 => true
  | .nilf, .nilFunc => true
  | .nili, .nilIface => true
  | _, _ => false
mutual
def zOk : AV → List Value → Option (List Value)
  | .agg fs, cs => zOks fs cs
  | .bool b, v :: cs => if cell1 (.bool b) v then some cs else none
  | .int k n, v :: cs => if cell1 (.int k n) v then some cs else none
  | .str s, v :: cs => if cell1 (.str s) v then some cs else none
  | .nilp, v :: cs => if cell1 .nilp v then some cs else none
  | .nils z, v :: cs => if cell1 (.nils z) v then some cs else none
  | .nilf, v :: cs => if cell1 .nilf v then some cs else none
  | .nili, v :: cs => if cell1 .nili v then some cs else none
  | _, _ => none
def zOks : List AV → List Value → Option (List Value)
  | [], cs => some cs
  | x :: xs, cs => match zOk x cs with
    | some r => zOks xs r
    | none => none
end
theorem ByteArray.eq_of_size_zero {s t : ByteArray} (hs : s.size = 0) (ht : t.size = 0) : s = t := by
  cases s with | mk a => cases t with | mk b =>
  have ha : a = #[] := Array.eq_empty_of_size_eq_zero hs
  have hb : b = #[] := Array.eq_empty_of_size_eq_zero ht
  rw [ha, hb]
theorem cell1_rc {x : AV} {v : Value} (h : cell1 x v = true) (w : World) (D : Dom) (E : Env) : rc w D E x [v] := by
  unfold cell1 at h
  split at h
  case h_8 => cases h
  case h_1 => simp only [beq_iff_eq] at h; subst h; simp [rc]
  case h_2 =>
    simp only [Bool.and_eq_true, beq_iff_eq, decide_eq_true_eq] at h
    obtain ⟨⟨rfl, rfl⟩, h⟩ := h
    simp only [rc, true_and]; exact h
  case h_3 =>
    simp only [Bool.and_eq_true, beq_iff_eq] at h
    have e := ByteArray.eq_of_size_zero h.1 h.2
    subst e
    simp only [rc, true_and]; rw [h.1]; exact Nat.zero_le _
  all_goals simp [rc]
mutual
theorem zOk_rc : ∀ (x : AV) (cs r : List Value), zOk x cs = some r → ∃ c1, cs = c1 ++ r ∧ ∀ w D E, rc w D E x c1
  | .agg fs, cs, r, h => by
    simp only [zOk] at h
    obtain ⟨c1, h1, h2⟩ := zOks_rc fs cs r h
    exact ⟨c1, h1, fun w D E => by simp only [rc]; exact h2 w D E⟩
  | .bool b, v :: cs, r, h | .int k n, v :: cs, r, h | .str s, v :: cs, r, h | .nilp, v :: cs, r, h | .nils z, v :: cs, r, h | .nilf, v :: cs, r, h | .nili, v :: cs, r, h => by
    simp only [zOk] at h
    split at h
    · rename_i hh
      simp only [Option.some.injEq] at h
      subst h
      exact ⟨[v], rfl, fun w D E => cell1_rc hh w D E⟩
    · cases h
  | .bool b, [], r, h | .int k n, [], r, h | .str s, [], r, h | .nilp, [], r, h | .nils z, [], r, h | .nilf, [], r, h | .nili, [], r, h => by simp [zOk] at h
  | .raw _, _, _, h | .undef, _, _, h | .top, _, _, h | .c0 _, _, _, h | .slice _ _, _, _, h | .tuple _, _, _, h | .ref _, _, _, h | .func _ _, _, _, h | .iface _ _, _, _, h | .ptr _ _, _, _, h | .own _ _, _, _, h | .view _ _ _ _ _, _, _, h => by simp [zOk] at h
theorem zOks_rc : ∀ (xs : List AV) (cs r : List Value), zOks xs cs = some r → ∃ c1, cs = c1 ++ r ∧ ∀ w D E, rcs w D E xs c1
  | [], cs, r, h => by
    simp only [zOks, Option.some.injEq] at h
    exact ⟨[], by simp [h], fun w D E => by simp [rcs]⟩
  | x :: xs, cs, r, h => by
    simp only [zOks] at h
    split at h
    · rename_i r' hx
      obtain ⟨c1, h1, h2⟩ := zOk_rc x cs r' hx
      obtain ⟨c2, h3, h4⟩ := zOks_rc xs r' r h
      exact ⟨c1 ++ c2, by rw [h1, h3, List.append_assoc], fun w D E => by simp only [rcs]; exact ⟨c1, c2, rfl, h2 w D E, h4 w D E⟩⟩
    · cases h
end
/-- The zero value of a type, where the table's own is it. -/
def zeroAV (P : Program) (t : TypeId) : Option AV :=
  match (P.info? t).bind (·.zero), zAV P 12 t with
  | some z, some x => match zOk x z.cells.toList with
    | some [] => some x
    | _ => none
  | _, _ => none
theorem zeroAV_ok {P : Program} {t : TypeId} {x : AV} (h : zeroAV P t = some x) : ∃ i z, P.info? t = some i ∧ i.zero = some z ∧ ∀ w D E, rc w D E x z.cells.toList := by
  unfold zeroAV at h
  split at h
  · rename_i z x' hz hx
    split at h
    · rename_i hk
      simp only [Option.some.injEq] at h
      subst h
      obtain ⟨i, hi, hz'⟩ := Option.bind_eq_some_iff.1 hz
      obtain ⟨c1, h1, h2⟩ := zOk_rc _ _ _ hk
      rw [List.append_nil] at h1
      exact ⟨i, z, hi, hz', fun w D E => by rw [h1]; exact h2 w D E⟩
    · cases h
  · cases h
/-- Where the parts of a value lie. -/
def places : Nat → List AV → List (Nat × Nat)
  | _, [] => []
  | k, x :: xs => (k, x.size) :: places (k + x.size) xs
theorem places_get : ∀ (xs : List AV) (k i : Nat), (places k xs)[i]? = (xs[i]?).map fun x => (k + AV.sizes (xs.take i), x.size)
  | [], k, i => by simp [places]
  | x :: xs, k, 0 => by simp [places, AV.sizes]
  | x :: xs, k, i + 1 => by
    simp only [places, List.getElem?_cons_succ, places_get xs, List.take_succ_cons, AV.sizes]
    cases xs[i]? <;> simp; omega
def callable (P : Program) (f : FuncId) : Bool := (P.funcs[f]?).any fun fn => fn.name != "runtime.NumGoroutine" && fn.body.isSome
def cParts (P : Program) (ps : List (Nat × Operand)) : Option (List (Nat × AOpd)) := ps.mapM fun p => (cOpd P 0 p.2).map fun x => (p.1, x)
def cOpt (P : Program) : Option Operand → Option (Option AOpd)
  | none => some none
  | some x => (cOpd P 0 x).map some
def cArgs (P : Program) : List Operand → List TypeId → Option (List AOpd)
  | [], _ => some []
  | x :: xs, ts => match cOpd P (ts.headD 0) x, cArgs P xs ts.tail with
    | some y, some ys => some (y :: ys)
    | _, _ => none
/-- The parts of a struct lie side by side. -/
def offsOk (P : Program) : Nat → List Field → Bool
  | _, [] => true
  | k, f :: fs => f.offset == k && offsOk P (k + P.cellsOf f.type) fs
/-- How '==' goes at a type. -/
def eTy (P : Program) : Nat → TypeId → Option ETy
  | 0, _ => none
  | d + 1, t => match P.underlying t with
    | some (.int k) => some (.i k)
    | some .bool => some .b
    | some .string => some .s
    | some (.struct fs) => if P.stoodInHeld t = false ∧ (fs.toList.all fun f => f.name != "_") = true ∧ offsOk P 0 fs.toList = true then
        (fs.toList.mapM fun (f : Field) => match eTy P d f.type with
          | some ty => if ty.size = P.cellsOf f.type then some ty else none
          | none => none).map .st else none
    | some (.array n e) => match eTy P d e with
      | some ty => if ty.size = P.cellsOf e ∧ (P.info? e).isSome = true then some (.ar n ty) else none
      | none => none
    | _ => none
def isIntD : Option TypeDesc → Bool
  | some (.int _) => true
  | _ => false
/-- An operation of the program's, read. -/
def cOp (P : Program) (o : Oper) : Option AOp :=
  match o.op with
  | .move x | .assign x => (cOpd P o.type x).map .mv
  | .pick c a b => match cOpd P 0 c, cOpd P o.type a, cOpd P o.type b with
    | some c, some a, some b => some (.pick c a b)
    | _, _, _ => none
  | .binOp op t x y _ => match P.underlying t, cOpd P 0 x, cOpd P 0 y with
    | some (.int _), some x, some y | some .string, some x, some y => some (.bin op x y)
    | some (.slice _), some x, some y => match y with
      | .c (.nils _) => if op = .eql ∨ op = .neq then some (.nilS (op == .neq) x) else none
      | _ => none
    | some _, some x, some y => if (op = .eql ∨ op = .neq) ∧ P.eqGuardType P.depth t = false then (eTy P 12 t).map fun ty => .eqv ty (op == .neq) x y else none
    | _, _, _ => none
  | .unOp op _ x => (cOpd P 0 x).map (.un op)
  | .convert src dst x => match P.underlying src, P.underlying dst, cOpd P 0 x with
    | some (.int _), some (.int k), some x => some (.conv k x)
    | _, _, _ => none
  | .load t x => match ldK P t, cOpd P 0 x with
    | some s, some x => some (.ld s x)
    | _, _ => none
  | .fieldAddr t x f => match P.underlying t, cOpd P 0 x with
    | some (.struct fs), some x => match fs[f]? with
      | some fd => if P.cellsOf fd.type = 0 then none else some (.fa f fd.offset x)
      | none => none
    | _, _ => none
  | .field t x f => match P.underlying t, cOpd P 0 x with
    | some (.struct fs), some x => match fs[f]? with
      | some fd => (ldK P fd.type).map fun s => .fl f fd.offset s x
      | none => none
    | _, _ => none
  | .indexAddr t x i => match P.underlying t, cOpd P 0 x, cOpd P 0 i with
    | some (.array n e), some x, some i => if (P.info? e).isSome then some (.ia n (P.cellsOf e) x i) else none
    | some (.slice e), some x, some i => if (P.info? e).isSome then some (.is (P.cellsOf e) x i) else none
    | _, _, _ => none
  | .index t x i => match P.underlying t, cOpd P 0 x, cOpd P 0 i with
    | some (.array n e), some x, some i => (ldK P e).map fun s => .ix n (P.cellsOf e) s x i
    | _, _, _ => none
  | .slice t x lo hi mx => match P.underlying t, cOpd P 0 x with
    | some (.array n e), some x => match lo, hi, mx with
      | none, none, none => if (P.info? e).isSome then some (.va n (P.cellsOf e) x) else none
      | _, _, _ => none
    | some (.slice e), some x => match cOpt P lo, cOpt P hi, cOpt P mx with
      | some lo, some hi, some mx => if (mx.isSome = true → hi.isSome = true) ∧ (P.info? e).isSome = true then some (.sl (P.cellsOf e) x lo hi mx) else none
      | _, _, _ => none
    | _, _ => none
  | .build t parts => match zeroAV P t, cParts P parts.toList with
    | some (.agg zs), some ps => match P.underlying t with
      | some (.struct fs) => if (fs.toList.map fun f => (f.offset, P.cellsOf f.type)) = places 0 zs ∧ (fs.all fun f => (P.info? f.type).isSome) = true then some (.bld zs ps) else none
      | some (.array n e) => if zs.length = n ∧ (zs.all fun z => z.size == P.cellsOf e) = true ∧ (P.info? e).isSome = true then some (.bld zs ps) else none
      | _ => none
    | _, _ => none
  | .buildSlice t len parts => match P.underlying t with
    | some (.slice e) => match cParts P parts.toList with
      | some ps => if len = 0 ∧ parts = #[] ∧ (P.info? e).isSome = true then some (.bs0 (P.cellsOf e)) else if ps.map (·.1) = List.range len ∧ 0 < P.cellsOf e ∧ 0 < len ∧ len * P.cellsOf e ≤ 16777216 ∧ ((P.info? e).bind (·.zero)).isSome = true then some (.bs (P.cellsOf e) (ps.map (·.2))) else none
      | none => none
    | _ => none
  | .extract x i => (cOpd P 0 x).map fun x => .ext x i
  | .makeFunc (.func f) first caps => if first.isEmpty then (cArgs P caps.toList []).map (.mk f) else none
  | .alloc t => (zeroAV P t).map .alloc
  | .box t x => (cOpd P t x).map .box
  | .store t x v => match ldK P t, cOpd P 0 x, cOpd P t v with
    | some s, some x, some v => if s.isSome = true ∨ P.cellsOf t = 1 then some (.st s x v) else none
    | _, _, _ => none
  | .call { callee := .value (.func f), args, argTypes } => if callable P f then (cArgs P args.toList argTypes.toList).map (.call f) else (cArgs P args.toList argTypes.toList).map (.xcall f)
  | .call { callee := .value x, args, argTypes } => match cOpd P 0 x, cArgs P args.toList argTypes.toList with
    | some x, some args => some (.callv x args)
    | _, _ => none
  | .call { callee := .builtin .len, args, argTypes } => match args.toList, argTypes.toList with
    | [x], [t] => match P.underlying t with
      | some (.slice _) => (cOpd P t x).map .len
      | some .string => (cOpd P t x).map .lenT
      | _ => none
    | _, _ => none
  | .call { callee := .builtin .append, args, argTypes } => match args.toList, argTypes.toList with
    | [s, x], [t, t'] => match P.underlying t, cOpd P t s, cOpd P t' x with
      | some (.slice e), some s, some x => if t = t' ∧ 0 < P.cellsOf e ∧ (zeroAV P e).map AV.size = some (P.cellsOf e) then (zeroAV P e).map fun z => .app e (P.cellsOf e) (P.bytesOf e) z s x else
        if isIntD (P.underlying t') = true ∧ 0 < P.cellsOf e ∧ (zeroAV P e).map AV.size = some (P.cellsOf e) then (zeroAV P e).map fun z => .apz e (P.cellsOf e) (P.bytesOf e) z s x else none
      | _, _, _ => none
    | _, _ => none
  | .call { callee := .builtin .cap, args, argTypes } => match args.toList, argTypes.toList with
    | [x], [t] => match P.underlying t with
      | some (.slice _) => (cOpd P t x).map .cap
      | _ => none
    | _, _ => none
  | .call { callee := .builtin .clear, args, argTypes } => match args.toList, argTypes.toList with
    | [x], [t] => match P.underlying t, cOpd P t x with
      | some (.slice e), some x => (zeroAV P e).map fun z => .clr (P.cellsOf e) z x
      | _, _ => none
    | _, _ => none
  | .call { callee := .builtin .copy, args, argTypes } => match args.toList, argTypes.toList with
    | [x, y], [t, t'] => match P.underlying t, cOpd P t x, cOpd P t' y with
      | some (.slice e), some x, some y => if t = t' ∧ (P.info? e).isSome = true then some (.cpy (P.cellsOf e) x y) else none
      | _, _, _ => none
    | _, _ => none
  | _ => none
end Go.Abs

/-
  THE ABSTRACT LAYER, 6: an operation that yields a value: the program's yields the same. Over any program.
-/
namespace Go.Abs
open Go Go.RowKit
/-- In every frame and world that fit, the operation yields a value that is 'x'; what fitted goes on fitting. -/
def Gives (c : Ctx) (A : AState) (o : Oper) (x : AV) : Prop :=
  ∀ a w D E, SimW c A a w D E → ∃ v w' D', (execOp a.eval o).run c.P w = .ok (.value v) w' ∧ SimW c A a w' D' E ∧ rv w' D' E x v
section
variable {c : Ctx} {A : AState} {o : Oper} {x : AV}
/-- It is enough that it yields so in the very world. -/
theorem Gives.same (h : ∀ a w D E, SimW c A a w D E → ∃ v, (execOp a.eval o).run c.P w = .ok (.value v) w ∧ rv w D E x v) : Gives c A o x :=
  fun a w D E hs => let ⟨v, h1, h2⟩ := h a w D E hs; ⟨v, w, D, h1, hs, h2⟩
theorem gives_mv {y : Operand} {z : AOpd} (ho : o.op = .move y ∨ o.op = .assign y) (hz : cOpd c.P o.type y = some z) : Gives c A o (ev A z) :=
  .same fun a w D E hs => ⟨a.eval y, by rcases ho with ho | ho <;> simp [execOp, ho], ev_ok hs hz⟩
theorem gives_pick {q y z : Operand} {q' y' z' : AOpd} {t : Bool} (ho : o.op = .pick q y z) (hq : cOpd c.P 0 q = some q') (hy : cOpd c.P o.type y = some y') (hz : cOpd c.P o.type z = some z')
    (ht : ev A q' = .bool t) : Gives c A o (if t then ev A y' else ev A z') :=
  .same fun a w D E hs => by
    have h1 := ev_ok hs hq
    rw [ht] at h1
    have h2 := rv_bool h1
    refine ⟨if t then a.eval y else a.eval z, by cases t <;> simp [execOp, ho, h2, asBool], ?_⟩
    cases t
    · exact ev_ok hs hz
    · exact ev_ok hs hy
theorem run_eqGuard_plain {P : Program} {w : World} (op : BinOp) (t : TypeId) (x y : Operand) {u v : Value} (hu : u.oneCell' = true) (hn : u ≠ .nilIface) : (eqGuard op t x y u v).run P w = .ok () w := by
  cases op <;> cases u <;> simp [Value.oneCell'] at hu <;> first | (exact absurd rfl hn) | (cases v <;> simp [eqGuard])
theorem aBin_ok {op : BinOp} {x y z : AV} (h : aBin op x y = some z) {P : Program} {t : TypeId} {w : World} {D : Dom} {E : Env} {u v : Value} (hx : rv w D E x u) (hy : rv w D E y v) (xo yo : Operand) :
    ∃ r, (do eqGuard op t xo yo u v; binOp op t u v : Sem Value).run P w = .ok r w ∧ rv w D E z r := by
  unfold aBin at h
  split at h
  · rename_i k a k' b
    obtain ⟨rfl, ha⟩ := rv_int hx
    obtain ⟨rfl, hb⟩ := rv_int hy
    have hg : ∀ op, (eqGuard op t xo yo (.int k a) (.int k' b)).run P w = .ok () w := fun op => run_eqGuard_plain op t xo yo rfl (by simp)
    simp only [Sem.run_bind, hg, Result.andThen_ok]
    split at h
    · split at h
      · rename_i hb0
        simp only [Option.some.injEq] at h; subst h
        have : ¬ b < 0 := by omega
        exact ⟨_, by simp [binOp, Op.shift, this], mk_int (wrap_range _ _)⟩
      · cases h
    · split at h
      · rename_i hb0
        simp only [Option.some.injEq] at h; subst h
        have : ¬ b < 0 := by omega
        exact ⟨_, by simp [binOp, Op.shift, this], mk_int (fdiv_range _ _ _ ha)⟩
      · cases h
    · rename_i op h1 h2
      split at h
      · rename_i hk
        subst hk
        split at h <;> first
          | (simp at h; done)
          | (simp only [Option.some.injEq] at h; subst h; exact ⟨_, by simp [binOp, Op.intArith, Op.intBits, Op.intCmp], mk_int (wrap_range _ _)⟩)
          | (simp only [Option.some.injEq] at h; subst h; exact ⟨_, by simp [binOp, Op.intArith, Op.intBits, Op.intCmp], mk_bool _⟩)
          | (split at h
             · cases h
             · rename_i hb0
               simp only [Option.some.injEq] at h; subst h
               first
                 | exact ⟨_, by simp [binOp, Op.intDiv, hb0], mk_int (wrap_range _ _)⟩
                 | exact ⟨_, by simp [binOp, Op.intDiv, hb0], mk_int (tmod_range _ _ _ ha)⟩)
      · cases h
  · rename_i s s'
    obtain ⟨rfl, hs1⟩ := rv_str hx
    obtain ⟨rfl, hs2⟩ := rv_str hy
    have hg : ∀ op, (eqGuard op t xo yo (.string s) (.string s')).run P w = .ok () w := fun op => run_eqGuard_plain op t xo yo rfl (by simp)
    simp only [Sem.run_bind, hg, Result.andThen_ok]
    split at h <;> first
      | (simp at h; done)
      | (simp only [Option.some.injEq] at h; subst h; exact ⟨_, by simp [binOp, Op.stringOp], mk_bool _⟩)
      | (split at h
         · rename_i hl
           simp only [Option.some.injEq] at h; subst h
           have hl' : ¬ (((s.size + s'.size : Nat) : Int) > IntKind.i64.max) := by
             have e : IntKind.i64.max = 9223372036854775807 := by simp [IntKind.max, IntKind.bits, IntKind.signed]
             rw [e]; omega
           refine ⟨.string (s ++ s'), by simp only [binOp, Op.stringOp, if_neg hl', Sem.run_pure], ?_⟩
           exact ⟨_, by simp [isPack, AV.isAgg]; rfl, by simp only [rc, true_and]; rw [ByteArray.size_append]; unfold maxLen; omega⟩
         · cases h)
  · cases h
theorem gives_bin {op : BinOp} {t yt : TypeId} {y z : Operand} {y' z' : AOpd} (ho : o.op = .binOp op t y z yt) (hy : cOpd c.P 0 y = some y') (hz : cOpd c.P 0 z = some z') (h : aBin op (ev A y') (ev A z') = some x) : Gives c A o x :=
  .same fun a w D E hs => by
    obtain ⟨r, h1, h2⟩ := aBin_ok h (P := c.P) (t := t) (ev_ok hs hy) (ev_ok hs hz) y z
    exact ⟨r, by simp only [execOp, ho, Sem.run_bind] at *; rw [h1]; rfl, h2⟩
theorem gives_not {t : TypeId} {y : Operand} {y' : AOpd} {b : Bool} (ho : o.op = .unOp .not t y) (hy : cOpd c.P 0 y = some y') (h : ev A y' = .bool b) : Gives c A o (.bool !b) :=
  .same fun a w D E hs => by
    have h1 := ev_ok hs hy
    rw [h] at h1
    exact ⟨.bool !b, by simp [execOp, ho, rv_bool h1, Op.unary], mk_bool _⟩
theorem gives_neg {t : TypeId} {y : Operand} {y' : AOpd} {k : IntKind} {n : Int} (ho : o.op = .unOp .neg t y) (hy : cOpd c.P 0 y = some y') (h : ev A y' = .int k n) : Gives c A o (.int k (k.wrap (0 - n))) :=
  .same fun a w D E hs => by
    have h1 := ev_ok hs hy
    rw [h] at h1
    exact ⟨.int k (k.wrap (0 - n)), by simp [execOp, ho, (rv_int h1).1, Op.unary, Op.intArith], mk_int (wrap_range _ _)⟩
theorem gives_cpl {t : TypeId} {y : Operand} {y' : AOpd} {k : IntKind} {n : Int} (ho : o.op = .unOp .xor t y) (hy : cOpd c.P 0 y = some y') (h : ev A y' = .int k n) : Gives c A o (.int k (cplI k n)) :=
  .same fun a w D E hs => by
    have h1 := ev_ok hs hy
    rw [h] at h1
    exact ⟨.int k (cplI k n), by simp [execOp, ho, (rv_int h1).1, Op.unary, Op.intBits, cplI], mk_int (wrap_range _ _)⟩
theorem gives_conv {src dst : TypeId} {y : Operand} {y' : AOpd} {k k0 k1 : IntKind} {n : Int} (ho : o.op = .convert src dst y) (h1 : c.P.underlying src = some (.int k0)) (h2 : c.P.underlying dst = some (.int k))
    (hy : cOpd c.P 0 y = some y') (h : ev A y' = .int k1 n) : Gives c A o (.int k (k.wrap n)) :=
  .same fun a w D E hs => by
    have h3 := ev_ok hs hy
    rw [h] at h3
    exact ⟨.int k (k.wrap n), by simp [execOp, ho, (rv_int h3).1, convert, run_underlying h1, run_underlying h2, Conv.intToInt], mk_int (wrap_range _ _)⟩
theorem gives_ext {y : Operand} {y' : AOpd} {i : Nat} {fs : List AV} (ho : o.op = .extract y i) (hy : cOpd c.P 0 y = some y') (h : ev A y' = .tuple fs) (hi : fs[i]? = some x) : Gives c A o x :=
  .same fun a w D E hs => by
    have h3 := ev_ok hs hy
    rw [h] at h3
    obtain ⟨vs, h4, h5⟩ := h3
    have : ∀ (fs : List AV) (vs : List Value) (i : Nat), rvs w D E fs vs → fs[i]? = some x → ∃ v, vs[i]? = some v ∧ rv w D E x v := by
      intro fs
      induction fs with
      | nil => intro vs i _ hi; simp at hi
      | cons f fs ih =>
        intro vs i hr hi
        simp only [rvs] at hr
        obtain ⟨v, rest, cs, rfl, k1, k2, k3⟩ := hr
        cases i with
        | zero =>
          simp only [List.getElem?_cons_zero, Option.some.injEq] at hi ⊢
          subst hi
          refine ⟨v, rfl, ?_⟩
          cases f <;> simp only [rv] <;> first | (simp only [rc] at k2; done) | exact ⟨cs, k1, k2⟩
        | succ i => simpa using ih rest i k3 (by simpa using hi)
    obtain ⟨v, h6, h7⟩ := this fs vs i h5 hi
    exact ⟨v, by simp [execOp, ho, h4, Instr.extract, h6], h7⟩
/-- A value's abstract value of its cells. -/
theorem mk_val {w : World} {D : Dom} {E : Env} {x : AV} {v : Value} {cs : List Value} (h1 : isPack x v cs) (h2 : rc w D E x cs) : rv w D E x v := by
  cases x <;> simp only [rv] <;> first | (simp only [rc] at h2; done) | exact ⟨cs, h1, h2⟩
theorem run_isAgg {P : Program} {w : World} {t : TypeId} {s : Option Nat} (h : ldK P t = some s) : (isAgg t).run P w = .ok s.isSome w := by
  unfold ldK at h
  unfold isAgg
  cases hu : P.underlying t with
  | none => simp [hu] at h
  | some d =>
    rw [Sem.run_bind, run_underlying hu w]
    cases d <;> simp_all <;> (subst h; rfl)
theorem ldK_some {P : Program} {t : TypeId} {n : Nat} (h : ldK P t = some (some n)) : n = P.cellsOf t := by
  unfold ldK at h
  split at h <;> simp_all
theorem info_of {P : Program} {t : TypeId} {d : TypeDesc} (h : P.underlying t = some d) : ∃ i, P.info? t = some i := by
  unfold Program.underlying at h
  cases hi : P.info? t with
  | none => simp [hi] at h
  | some i => exact ⟨i, rfl⟩
theorem run_sizeOf' {P : Program} {w : World} {t : TypeId} {i : TypeInfo} (h : P.info? t = some i) : (sizeOf t).run P w = .ok (P.cellsOf t) w := by
  simp [sizeOf, typeInfo, h, Program.cellsOf]
theorem ldK_info {P : Program} {t : TypeId} {s : Option Nat} (h : ldK P t = some s) : ∃ i, P.info? t = some i := by
  unfold ldK at h
  split at h
  · rename_i fs hu; exact info_of hu
  · rename_i n e hu; exact info_of hu
  · rename_i d _ _ hu; exact info_of hu
  · cases h
theorem addr_add (b off j : Nat) : (⟨b, off, none⟩ : Addr).add j = ⟨b, off + j, none⟩ := by unfold Addr.add; split <;> simp_all
/-- A variable is loaded: its cells are known. -/
theorem run_loadVar_known {P : Program} {w : World} {D : Dom} {E : Env} {t : TypeId} {s : Option Nat} {b off : Nat} {cs : List Value} {y : AV} (hk : ldK P t = some s) (hok : okLd s y = true)
    (hcs : ∀ j u, cs[j]? = some u → w.cell? ⟨b, off + j, none⟩ = some u) (hy : rc w D E y cs) : ∃ v, (loadVar t ⟨b, off, none⟩).run P w = .ok v w ∧ rv w D E y v := by
  have hag := run_isAgg (w := w) hk
  cases s with
  | none =>
    simp only [okLd, Bool.not_eq_true'] at hok
    have hl := rc.length _ _ hy
    have hsz : y.size = 1 := by cases y <;> simp_all [AV.isAgg, AV.size]
    rw [hsz] at hl
    match cs, hl with
    | [v], _ =>
      have := hcs 0 v rfl
      rw [Nat.add_zero] at this
      refine ⟨v, ?_, mk_one hok hy⟩
      simp only [loadVar, Sem.run_bind, hag, Result.andThen_ok, Option.isSome_none, Bool.false_eq_true, if_false, run_load, this]
  | some n =>
    simp only [okLd, Bool.and_eq_true, beq_iff_eq] at hok
    obtain ⟨hag', hsz⟩ := hok
    have hn := ldK_some hk
    obtain ⟨i, hi⟩ := ldK_info hk
    have hl := rc.length _ _ hy
    refine ⟨.agg cs.toArray, ?_, mk_val (by simp [isPack, hag']) hy⟩
    have hlc := run_loadCells_list (P := P) w ⟨b, off, none⟩ cs (fun j u hj => by rw [addr_add]; exact hcs j u hj)
    rw [hl, hsz, hn] at hlc
    simp only [loadVar, Sem.run_bind, hag, Result.andThen_ok, Option.isSome_some, if_true, run_sizeOf' hi, hlc, Sem.run_pure]
theorem gives_ld {t : TypeId} {y : Operand} {y' : AOpd} {s : Option Nat} (ho : o.op = .load t y) (hk : ldK c.P t = some s) (hy : cOpd c.P 0 y = some y') (h : deref A (ev A y') = some x) (hok : okLd s x = true) : Gives c A o x :=
  .same fun a w D E hs => by
    obtain ⟨b, off, cs, h1, h2, h3⟩ := hs.behind (ev_ok hs hy) h
    obtain ⟨v, h4, h5⟩ := run_loadVar_known hk hok h2 h3
    exact ⟨v, by simp [execOp, ho, Instr.loadAt, h1, Instr.sureAddr, h4], h5⟩
/-! ### addresses of parts -/
theorem reads_part {w : World} {D : Dom} {b off : Nat} {c1 c2 c3 : List Value} (h : reads w D b off (c1 ++ c2 ++ c3)) : reads w D b (off + c1.length) c2 := by
  intro j v hj
  have hjl : j < c2.length := (List.getElem?_eq_some_iff.1 hj).1
  have := h (c1.length + j) v (by rw [List.append_assoc, List.getElem?_append_right (by omega), Nat.add_sub_cancel_left, List.getElem?_append_left (by omega)]; exact hj)
  rwa [← Nat.add_assoc] at this
theorem Sh.off_snoc : ∀ (p : List Nat) (s : Sh) (o i : Nat) (l : List Sh), s.off p = some o → s.part p = some (.many l) → i < l.length → s.off (p ++ [i]) = some (o + Sh.sizes (l.take i))
  | [], s, o, i, l, h1, h2, h3 => by
    simp only [Sh.part, Option.some.injEq] at h2
    subst h2
    simp only [Sh.off, Option.some.injEq] at h1
    subst h1
    simp [Sh.off, List.getElem?_eq_getElem h3]
  | k :: p, .one, o, i, l, h1, h2, h3 => by simp [Sh.part] at h2
  | k :: p, .many m, o, i, l, h1, h2, h3 => by
    simp only [Sh.off, Sh.part, List.cons_append] at *
    cases hk : m[k]? with
    | none => simp [hk] at h2
    | some s =>
      simp only [hk] at h1 h2 ⊢
      simp only [Option.map_eq_some_iff] at h1
      obtain ⟨o', h4, rfl⟩ := h1
      rw [Sh.off_snoc p s o' i l h4 h2 h3]
      simp [Nat.add_assoc]
theorem sizes_take_even {esz : Nat} : ∀ (fs : List AV) (k : Nat), (∀ f ∈ fs, f.size = esz) → k ≤ fs.length → AV.sizes (fs.take k) = k * esz := by
  intro fs k h hk
  rw [AV.sizes_const _ (fun x hx => h x (List.mem_of_mem_take hx))]
  simp [Nat.min_eq_left hk]
theorem evenly_spec {n esz : Nat} {fs : List AV} (h : evenly n esz fs = true) : fs.length = n ∧ ∀ f ∈ fs, f.size = esz := by
  simp only [evenly, Bool.and_eq_true, beq_iff_eq, List.all_eq_true] at h
  exact h
theorem run_fieldAt {P : Program} {w : World} {t : TypeId} {f b off : Nat} {fs : Array Field} {fd : Field} (hu : P.underlying t = some (.struct fs)) (hf : fs[f]? = some fd) (hz : ¬ P.cellsOf fd.type = 0) :
    (Instr.fieldAt t (.pointer (some ⟨b, off, none⟩)) f).run P w = .ok (.pointer (some ⟨b, off + fd.offset, none⟩)) w := by
  have hi : ∃ i, P.info? fd.type = some i := by
    cases h : P.info? fd.type with
    | none => simp [Program.cellsOf, h] at hz
    | some i => exact ⟨i, rfl⟩
  obtain ⟨i, hi⟩ := hi
  simp only [Instr.fieldAt, Sem.run_bind, run_underlying hu, Result.andThen_ok, hf, Instr.sureAddr, Sem.run_pure, fieldPlace, run_sizeOf' hi, Sem.run_ite, if_neg hz, addr_add]
theorem gives_fa_ref {t : TypeId} {y : Operand} {y' : AOpd} {f : Nat} {fs : Array Field} {fd : Field} {gs : List AV} (ho : o.op = .fieldAddr t y f) (hu : c.P.underlying t = some (.struct fs)) (hf : fs[f]? = some fd) (hz : ¬ c.P.cellsOf fd.type = 0)
    (hy : cOpd c.P 0 y = some y') (h : ev A y' = .ref (.agg gs)) (hx : gs[f]? = some x) (hoff : AV.sizes (gs.take f) = fd.offset) : Gives c A o (.ref x) :=
  .same fun a w D E hs => by
    have h1 := ev_ok hs hy
    rw [h] at h1
    obtain ⟨b, off, cs, h2, h3, h4⟩ := rv_ref h1
    simp only [rc] at h4
    obtain ⟨c1, c2, c3, rfl, k1, _, k2, _⟩ := rcs_split gs cs f x h4 hx
    refine ⟨_, by simp only [execOp, ho, h2, Sem.run_bind, run_fieldAt hu hf hz]; rfl, mk_ref (cs := c2) ?_ k2⟩
    rw [← hoff, ← k1]
    exact reads_part h3
theorem gives_fa_ptr {t : TypeId} {y : Operand} {y' : AOpd} {f n : Nat} {p : List Nat} {fs : Array Field} {fd : Field} {gs : List AV} (ho : o.op = .fieldAddr t y f) (hu : c.P.underlying t = some (.struct fs)) (hf : fs[f]? = some fd) (hz : ¬ c.P.cellsOf fd.type = 0)
    (hy : cOpd c.P 0 y = some y') (h : ev A y' = .ptr n p) (hd : deref A (.ptr n p) = some (.agg gs)) (hl : f < gs.length) (hoff : AV.sizes (gs.take f) = fd.offset) : Gives c A o (.ptr n (p ++ [f])) :=
  .same fun a w D E hs => by
    have h1 := ev_ok hs hy
    rw [h] at h1
    obtain ⟨b, sh, off, h2, h3, h4⟩ := rv_ptr h1
    obtain ⟨z, b', cs, T, off', c1, c2, c3, k1, k2, _, k3, k4, k5, k6, k7, k8, k9, _⟩ := hs.at hd
    rw [k2] at h2
    simp only [Option.some.injEq, Ent.bx.injEq] at h2
    obtain ⟨rfl, rfl⟩ := h2
    refine ⟨_, by simp only [execOp, ho, h4, Sem.run_bind, run_fieldAt hu hf hz]; rfl, ?_⟩
    refine ⟨_, by simp [isPack, AV.isAgg]; rfl, ?_⟩
    simp only [rc]
    refine ⟨b', z.sh, off + fd.offset, k2, ?_, rfl⟩
    rw [Sh.off_snoc p z.sh off f _ h3 (sh_part p z _ k4) (by rw [AV.shs_eq_map]; simpa using hl), AV.shs_eq_map, ← List.map_take, ← AV.shs_eq_map, AV.shs_sizes, hoff]
theorem run_indexAt_array {P : Program} {w : World} {t e : TypeId} {n b off : Nat} {kk : IntKind} {k : Int} {i : TypeInfo} (hu : P.underlying t = some (.array n e)) (hi : P.info? e = some i) (hk : 0 ≤ k ∧ k < n) :
    (Instr.indexAt t (.pointer (some ⟨b, off, none⟩)) (.int kk k)).run P w = .ok (.pointer (some ⟨b, off + k.toNat * P.cellsOf e, none⟩)) w := by
  simp [Instr.indexAt, asIntOf, run_underlying hu, Instr.sureAddr, hk, run_sizeOf' hi, addr_add]
theorem run_indexAt_slice {P : Program} {w : World} {t e : TypeId} {n b off cap : Nat} {kk : IntKind} {k : Int} {i : TypeInfo} (hu : P.underlying t = some (.slice e)) (hi : P.info? e = some i) (hk : 0 ≤ k ∧ k < n) :
    (Instr.indexAt t (.slice (some ⟨b, off, none⟩) n cap) (.int kk k)).run P w = .ok (.pointer (some ⟨b, off + k.toNat * P.cellsOf e, none⟩)) w := by
  simp [Instr.indexAt, asIntOf, run_underlying hu, hk, run_sizeOf' hi, addr_add]
theorem gives_ia_ref {t e : TypeId} {y z : Operand} {y' z' : AOpd} {n : Nat} {i : TypeInfo} {gs : List AV} {kk : IntKind} {k : Int} (ho : o.op = .indexAddr t y z) (hu : c.P.underlying t = some (.array n e)) (hi : c.P.info? e = some i)
    (hy : cOpd c.P 0 y = some y') (hz : cOpd c.P 0 z = some z') (h : ev A y' = .ref (.agg gs)) (h' : ev A z' = .int kk k) (hk : 0 ≤ k ∧ k < n) (hev : evenly n (c.P.cellsOf e) gs = true) (hx : gs[k.toNat]? = some x) : Gives c A o (.ref x) :=
  .same fun a w D E hs => by
    have h1 := ev_ok hs hy
    rw [h] at h1
    have h1' := ev_ok hs hz
    rw [h'] at h1'
    obtain ⟨b, off, cs, h2, h3, h4⟩ := rv_ref h1
    simp only [rc] at h4
    obtain ⟨c1, c2, c3, rfl, k1, _, k2, _⟩ := rcs_split gs cs k.toNat x h4 hx
    obtain ⟨e1, e2⟩ := evenly_spec hev
    have hl : k.toNat < gs.length := (List.getElem?_eq_some_iff.1 hx).1
    refine ⟨_, by simp only [execOp, ho, h2, (rv_int h1').1, Sem.run_bind, run_indexAt_array hu hi hk]; rfl, mk_ref (cs := c2) ?_ k2⟩
    rw [← sizes_take_even gs k.toNat e2 (by omega), ← k1]
    exact reads_part h3
theorem gives_ia_ptr {t e : TypeId} {y z : Operand} {y' z' : AOpd} {n m : Nat} {p : List Nat} {i : TypeInfo} {gs : List AV} {kk : IntKind} {k : Int} (ho : o.op = .indexAddr t y z) (hu : c.P.underlying t = some (.array n e)) (hi : c.P.info? e = some i)
    (hy : cOpd c.P 0 y = some y') (hz : cOpd c.P 0 z = some z') (h : ev A y' = .ptr m p) (h' : ev A z' = .int kk k) (hk : 0 ≤ k ∧ k < n) (hd : deref A (.ptr m p) = some (.agg gs)) (hev : evenly n (c.P.cellsOf e) gs = true) : Gives c A o (.ptr m (p ++ [k.toNat])) :=
  .same fun a w D E hs => by
    have h1 := ev_ok hs hy
    rw [h] at h1
    have h1' := ev_ok hs hz
    rw [h'] at h1'
    obtain ⟨b, sh, off, h2, h3, h4⟩ := rv_ptr h1
    obtain ⟨zz, b', cs, T, off', c1, c2, c3, k1, k2, _, k3, k4, k5, k6, k7, k8, k9, _⟩ := hs.at hd
    rw [k2] at h2
    simp only [Option.some.injEq, Ent.bx.injEq] at h2
    obtain ⟨rfl, rfl⟩ := h2
    obtain ⟨e1, e2⟩ := evenly_spec hev
    have hl : k.toNat < gs.length := by omega
    refine ⟨_, by simp only [execOp, ho, h4, (rv_int h1').1, Sem.run_bind, run_indexAt_array hu hi hk]; rfl, ?_⟩
    refine ⟨_, by simp [isPack, AV.isAgg]; rfl, ?_⟩
    simp only [rc]
    refine ⟨b', zz.sh, off + k.toNat * c.P.cellsOf e, k2, ?_, rfl⟩
    rw [Sh.off_snoc p zz.sh off k.toNat _ h3 (sh_part p zz _ k4) (by rw [AV.shs_eq_map]; simpa using hl), AV.shs_eq_map, ← List.map_take, ← AV.shs_eq_map, AV.shs_sizes, sizes_take_even gs _ e2 (by omega)]
theorem elem_of {w : World} {D : Dom} {E : Env} {b off sz k : Nat} {cs : List Value} {es : List AV} {x : AV} (h1 : reads w D b off cs) (h2 : rcs w D E es cs) (h3 : ∀ e ∈ es, e.size = sz) (hx : es[k]? = some x) :
    ∃ c2, reads w D b (off + k * sz) c2 ∧ rc w D E x c2 := by
  obtain ⟨c1, c2, c3, rfl, k1, _, k2, _⟩ := rcs_split es cs k x h2 hx
  have hl : k < es.length := (List.getElem?_eq_some_iff.1 hx).1
  refine ⟨c2, ?_, k2⟩
  rw [← sizes_take_even es k h3 (by omega), ← k1]
  exact reads_part h1
theorem gives_is {t e : TypeId} {y z : Operand} {y' z' : AOpd} {i : TypeInfo} {es : List AV} {kk : IntKind} {k : Int} (ho : o.op = .indexAddr t y z) (hu : c.P.underlying t = some (.slice e)) (hi : c.P.info? e = some i)
    (hy : cOpd c.P 0 y = some y') (hz : cOpd c.P 0 z = some z') (h : ev A y' = .slice (c.P.cellsOf e) es) (h' : ev A z' = .int kk k) (hk : 0 ≤ k ∧ k < es.length) (hx : es[k.toNat]? = some x) : Gives c A o (.ref x) :=
  .same fun a w D E hs => by
    have h1 := ev_ok hs hy
    rw [h] at h1
    have h1' := ev_ok hs hz
    rw [h'] at h1'
    obtain ⟨ad, cap, rfl', h2, h3, h4, h5⟩ := rv_slice h1
    rcases h4 with h4 | ⟨b, off, cs, rfl, h6, h7⟩
    · subst h4; simp at hx
    obtain ⟨c2, k1, k2⟩ := elem_of h6 h7 h5 hx
    exact ⟨_, by simp only [execOp, ho, rfl', (rv_int h1').1, Sem.run_bind, run_indexAt_slice hu hi hk]; rfl, mk_ref k1 k2⟩
/-- A row's own cells may be read for good. -/
theorem SimW.share {a : Act} {w : World} {D : Dom} {E : Env} (h : SimW c A a w D E) {n sz b cap : Nat} {T : TypeId} {es : List AV} (hn : A.o n = some (.row T sz es)) (hE : E n = some (.rw (some (b, cap)) es.length)) :
    SimW c A a w (fun b' o => D b' o ∨ (b' = b ∧ o < es.length * sz)) E := by
  have hrow := h.row hn
  obtain ⟨blk, k1, k2, k3⟩ := hrow
  rw [hE] at k1
  simp only [Option.some.injEq, Ent.rw.injEq, and_true] at k1
  subst k1
  obtain ⟨cs, pre, rest, k4, k5, k6, k7, k8, k9, k10, k11⟩ := k3
  refine h.widen (fun _ _ hd => .inl hd) ?_ ?_ ?_ ?_ ?_
  · rintro b' o (hd | ⟨rfl, _⟩) hlt
    · exact h.dom _ _ hd hlt
    · exact absurd k4 hlt
  · rintro b' o (hd | ⟨rfl, _⟩)
    · exact h.live _ _ hd
    · exact heap_lt k5
  · rintro m x b' hm hEm o (hd | ⟨rfl, _⟩)
    · obtain ⟨b2, cs2, T2, q1, q2, q3, q4, q5⟩ := h.box hm
      rw [q1] at hEm
      simp only [Option.some.injEq, Ent.bx.injEq, and_true] at hEm
      subst hEm
      exact q5 o hd
    · have := h.sep m n _ _ b' hEm hE rfl rfl
      subst this
      rw [hm] at hn
      cases hn
  · rintro m T' sz' es' b' cap' hm hEm o (hd | ⟨rfl, ho⟩)
    · obtain ⟨blk, q1, q2, q3⟩ := h.row hm
      rw [hEm] at q1
      simp only [Option.some.injEq, Ent.rw.injEq, and_true] at q1
      subst q1
      obtain ⟨cs', pre', rest', q4, q5, q6, q7, q8, q9, q10, q11⟩ := q3
      have := q11 o hd
      rwa [rcs.length _ _ q7, AV.sizes_const _ q2] at this
    · have := h.sep m n _ _ b' hEm hE rfl rfl
      subst this
      rw [hm] at hn
      simp only [Option.some.injEq, AO.row.injEq] at hn
      obtain ⟨rfl, rfl, rfl⟩ := hn
      exact ho
  · rintro m b' hE' o (hd | ⟨rfl, _⟩)
    · exact h.opNo hE' o hd
    · have := h.sep m n _ _ b' hE' hE rfl rfl
      subst this
      rw [hE'] at hE
      cases hE
/-- What an owned slice's value is. -/
theorem SimW.own {a : Act} {w : World} {D : Dom} {E : Env} (h : SimW c A a w D E) {n sz : Nat} {T : TypeId} {es : List AV} {v : Value} (hn : A.o n = some (.row T sz es)) (hv : rv w D E (.own n es.length) v) :
    (es = [] ∧ E n = some (.rw none 0) ∧ v = .slice none 0 0) ∨
    ∃ b cap cs pre rest, E n = some (.rw (some (b, cap)) es.length) ∧ v = .slice (some ⟨b, 0, none⟩) es.length cap ∧ c.Mine b ∧ w.heap[b]? = some (.cells cs T (0, 0)) ∧ cs.toList = pre ++ rest ∧
      rcs w D E es pre ∧ cs.size = cap * sz ∧ es.length ≤ cap ∧ cap ≤ maxLen ∧ (∀ o, D b o → o < pre.length) := by
  obtain ⟨cs0, h1, h2⟩ := hv
  simp only [rc] at h2
  obtain ⟨blk, l, h3, h4, _, h5⟩ := h2
  obtain ⟨blk', k1, k2, k3⟩ := h.row hn
  rw [k1] at h3
  simp only [Option.some.injEq, Ent.rw.injEq] at h3
  obtain ⟨rfl, rfl⟩ := h3
  have h5 := h5 rfl
  cases blk' with
  | none =>
    simp only at k3 h5
    subst k3
    exact .inl ⟨rfl, k1, by simpa [isPack, AV.isAgg, h5] using h1.symm⟩
  | some bc =>
    obtain ⟨b, cap⟩ := bc
    simp only at h5
    obtain ⟨cs, pre, rest, k4, k5, k6, k7, k8, k9, k10, k11⟩ := k3
    exact .inr ⟨b, cap, cs, pre, rest, k1, by simpa [isPack, AV.isAgg, h5] using h1.symm, k4, k5, k6, k7, k8, k9, k10, k11⟩
theorem gives_is_own {t e : TypeId} {y z : Operand} {y' z' : AOpd} {i : TypeInfo} {es : List AV} {n : Nat} {kk : IntKind} {k : Int} (ho : o.op = .indexAddr t y z) (hu : c.P.underlying t = some (.slice e)) (hi : c.P.info? e = some i)
    (hy : cOpd c.P 0 y = some y') (hz : cOpd c.P 0 z = some z') (h : ev A y' = .own n es.length) {T : TypeId} (hn : A.o n = some (.row T (c.P.cellsOf e) es)) (h' : ev A z' = .int kk k) (hk : 0 ≤ k ∧ k < es.length) (hx : es[k.toNat]? = some x) : Gives c A o (.ref x) := by
  intro a w D E hs
  have h1 := ev_ok hs hy
  rw [h] at h1
  have h1' := ev_ok hs hz
  rw [h'] at h1'
  rcases hs.own hn h1 with ⟨rfl, _⟩ | ⟨b, cap, cs, pre, rest, k1, k2, k3, k4, k5, k6, k7, k8, k9, k10⟩
  · simp at hx
  · have hs' := hs.share hn k1
    obtain ⟨blk, q1, q2, _⟩ := hs.row hn
    have hpl : pre.length = es.length * c.P.cellsOf e := by rw [rcs.length _ _ k6, AV.sizes_const _ q2]
    have hr : reads w (fun b' o => D b' o ∨ (b' = b ∧ o < es.length * c.P.cellsOf e)) b 0 pre := by
      have := reads_of_heap (D := fun b' o => D b' o ∨ (b' = b ∧ o < es.length * c.P.cellsOf e)) (c1 := []) k4 (by simpa using k5) (fun o ho => .inr ⟨rfl, by simp at ho; omega⟩)
      simpa using this
    have hrc : rcs w (fun b' o => D b' o ∨ (b' = b ∧ o < es.length * c.P.cellsOf e)) E es pre :=
      rcs.later ⟨fun _ _ hd => .inl hd, fun _ _ _ _ h => h, fun _ _ _ h => h, fun _ blk l h => ⟨blk, l, h, Nat.le_refl _, fun _ => rfl⟩⟩ es pre k6
    obtain ⟨c2, q3, q4⟩ := elem_of hr hrc q2 hx
    exact ⟨_, w, _, by simp only [execOp, ho, k2, (rv_int h1').1, Sem.run_bind, run_indexAt_slice hu hi hk]; rfl, hs', mk_ref q3 q4⟩
end
end Go.Abs

/-
  THE ABSTRACT LAYER, 7: more operations that yield a value. Over any program.
-/
namespace Go.Abs
open Go Go.RowKit
section
variable {c : Ctx} {A : AState} {o : Oper} {x : AV}
/-- A part of a value of many cells. -/
theorem run_part_known {P : Program} {w : World} {D : Dom} {E : Env} {t : TypeId} {s : Option Nat} {c1 c2 c3 : List Value} {y : AV} (hk : ldK P t = some s) (hok : okLd s y = true) (hy : rc w D E y c2) :
    ∃ v, (part t (c1 ++ c2 ++ c3).toArray c1.length).run P w = .ok v w ∧ rv w D E y v := by
  have hag := run_isAgg (w := w) hk
  have hl := rc.length _ _ hy
  cases s with
  | none =>
    simp only [okLd, Bool.not_eq_true'] at hok
    have hsz : y.size = 1 := by cases y <;> simp_all [AV.isAgg, AV.size]
    rw [hsz] at hl
    match c2, hl with
    | [v], _ =>
      refine ⟨v, ?_, mk_one hok hy⟩
      simp [part, hag]
  | some n =>
    simp only [okLd, Bool.and_eq_true, beq_iff_eq] at hok
    obtain ⟨hag', hsz⟩ := hok
    have hn := ldK_some hk
    obtain ⟨i, hi⟩ := ldK_info hk
    refine ⟨.agg c2.toArray, ?_, mk_val (by simp [isPack, hag']) hy⟩
    have e : ((c1 ++ c2 ++ c3).toArray.extract c1.length (c1.length + P.cellsOf t)) = c2.toArray := by
      have : P.cellsOf t = c2.length := by rw [hl, hsz, hn]
      rw [this]
      simp
    simp only [part, Sem.run_bind, hag, Result.andThen_ok, Option.isSome_some, if_true, run_sizeOf' hi, e, Sem.run_pure]
theorem gives_fl {t : TypeId} {y : Operand} {y' : AOpd} {f : Nat} {s : Option Nat} {fs : Array Field} {fd : Field} {gs : List AV} (ho : o.op = .field t y f) (hu : c.P.underlying t = some (.struct fs)) (hf : fs[f]? = some fd) (hk : ldK c.P fd.type = some s)
    (hy : cOpd c.P 0 y = some y') (h : ev A y' = .agg gs) (hx : gs[f]? = some x) (hoff : AV.sizes (gs.take f) = fd.offset) (hok : okLd s x = true) : Gives c A o x :=
  .same fun a w D E hs => by
    have h1 := ev_ok hs hy
    rw [h] at h1
    obtain ⟨cs, h2, h4⟩ := rv_agg h1
    obtain ⟨c1, c2, c3, rfl, k1, _, k2, _⟩ := rcs_split gs cs f x h4 hx
    obtain ⟨v, k3, k4⟩ := run_part_known (c1 := c1) (c3 := c3) hk hok k2
    rw [k1, hoff] at k3
    exact ⟨v, by simp only [execOp, ho, h2, Instr.field, Sem.run_bind, run_underlying hu, Result.andThen_ok, hf, asAgg, Sem.run_pure, k3], k4⟩
theorem gives_ix {t e : TypeId} {y z : Operand} {y' z' : AOpd} {n : Nat} {s : Option Nat} {gs : List AV} {kk : IntKind} {k : Int} (ho : o.op = .index t y z) (hu : c.P.underlying t = some (.array n e)) (hk : ldK c.P e = some s)
    (hy : cOpd c.P 0 y = some y') (hz : cOpd c.P 0 z = some z') (h : ev A y' = .agg gs) (h' : ev A z' = .int kk k) (hb : 0 ≤ k ∧ k < n) (hev : evenly n (c.P.cellsOf e) gs = true) (hx : gs[k.toNat]? = some x) (hok : okLd s x = true) : Gives c A o x :=
  .same fun a w D E hs => by
    have h1 := ev_ok hs hy
    rw [h] at h1
    have h1' := ev_ok hs hz
    rw [h'] at h1'
    obtain ⟨cs, h2, h4⟩ := rv_agg h1
    obtain ⟨c1, c2, c3, rfl, k1, _, k2, _⟩ := rcs_split gs cs k.toNat x h4 hx
    obtain ⟨v, k3, k4⟩ := run_part_known (c1 := c1) (c3 := c3) hk hok k2
    obtain ⟨e1, e2⟩ := evenly_spec hev
    obtain ⟨i, hi⟩ := ldK_info hk
    have hl : k.toNat < gs.length := (List.getElem?_eq_some_iff.1 hx).1
    rw [k1, sizes_take_even gs k.toNat e2 (by omega)] at k3
    exact ⟨v, by simp only [execOp, ho, h2, (rv_int h1').1, Instr.index, Sem.run_bind, asIntOf, run_underlying hu, Result.andThen_ok, Sem.run_ite, if_pos hb, run_sizeOf' hi, Sem.run_pure, k3], k4⟩
theorem max_i64 {n : Nat} (h : n ≤ maxLen) : IntKind.i64.min ≤ (n : Int) ∧ (n : Int) ≤ IntKind.i64.max := by
  simp only [IntKind.min, IntKind.max, IntKind.bits, IntKind.signed]
  unfold maxLen at h
  simp; omega
theorem gives_len {ty : TypeId} {y : Operand} {y' : AOpd} {n : Nat} {d : TypeDesc} (ho : o.op = .call { callee := .builtin .len, args := #[y], argTypes := #[ty] }) (hu : c.P.underlying ty = some d) (hd : (∃ e, d = .slice e) ∨ d = .string)
    (hy : cOpd c.P ty y = some y') (h : ∀ a w D E, SimW c A a w D E → ∀ v, rv w D E (ev A y') v → n ≤ maxLen ∧ ((∃ e, d = .slice e) → ∃ ad cap, v = .slice ad n cap) ∧ (d = .string → ∃ s, v = .string s ∧ s.size = n)) : Gives c A o (.int .i64 n) :=
  .same fun a w D E hs => by
    obtain ⟨h0, h1, h2⟩ := h a w D E hs _ (ev_ok hs hy)
    refine ⟨.int .i64 n, ?_, mk_int (max_i64 h0)⟩
    rcases hd with ⟨e, rfl⟩ | rfl
    · obtain ⟨ad, cap, hv⟩ := h1 ⟨e, rfl⟩
      simp [execOp, ho, resolve, invoke, builtin, Builtin.len_, run_underlying hu, hv, goInt]
    · obtain ⟨s, hv, hs⟩ := h2 rfl
      simp [execOp, ho, resolve, invoke, builtin, Builtin.len_, run_underlying hu, hv, goInt, hs]
theorem gives_va_ref {t e : TypeId} {y : Operand} {y' : AOpd} {n : Nat} {i : TypeInfo} {gs : List AV} (ho : o.op = .slice t y none none none) (hu : c.P.underlying t = some (.array n e)) (hi : c.P.info? e = some i)
    (hy : cOpd c.P 0 y = some y') (h : ev A y' = .ref (.agg gs)) (hev : evenly n (c.P.cellsOf e) gs = true) (hn : n ≤ maxLen) : Gives c A o (.slice (c.P.cellsOf e) gs) :=
  .same fun a w D E hs => by
    have h1 := ev_ok hs hy
    rw [h] at h1
    obtain ⟨b, off, cs, h2, h3, h4⟩ := rv_ref h1
    simp only [rc] at h4
    obtain ⟨e1, e2⟩ := evenly_spec hev
    by_cases h0 : n = 0
    · exact ⟨.slice (some ⟨b, off, none⟩) 0 0, by simp [execOp, ho, h2, Instr.sliceAt, run_underlying hu, Instr.sureAddr, Instr.sliceBounds, run_sizeOf' hi, h0], mk_slice (by omega) (by omega) (by simp [maxLen]) (.inl (List.eq_nil_of_length_eq_zero (by omega))) e2⟩
    · exact ⟨.slice (some ⟨b, off, none⟩) n n, by simp [execOp, ho, h2, Instr.sliceAt, run_underlying hu, Instr.sureAddr, Instr.sliceBounds, run_sizeOf' hi, h0, addr_add], mk_slice e1.symm (Nat.le_refl _) hn (.inr ⟨b, off, cs, rfl, h3, h4⟩) e2⟩
theorem gives_va_ptr {t e : TypeId} {y : Operand} {y' : AOpd} {n m : Nat} {p : List Nat} {i : TypeInfo} {gs : List AV} (ho : o.op = .slice t y none none none) (hu : c.P.underlying t = some (.array n e)) (hi : c.P.info? e = some i)
    (hy : cOpd c.P 0 y = some y') (h : ev A y' = .ptr m p) (hd : deref A (.ptr m p) = some (.agg gs)) (hev : evenly n (c.P.cellsOf e) gs = true) (hn : n ≤ maxLen) (hn0 : n ≠ 0) : Gives c A o (.view m p (c.P.cellsOf e) 0 n) :=
  .same fun a w D E hs => by
    have h1 := ev_ok hs hy
    rw [h] at h1
    obtain ⟨b, sh, off, h2, h3, h4⟩ := rv_ptr h1
    obtain ⟨zz, b', cs, T, off', c1, c2, c3, k1, k2, _, k3, k4, k5, k6, k7, k8, k9, _⟩ := hs.at hd
    rw [k2] at h2
    simp only [Option.some.injEq, Ent.bx.injEq] at h2
    obtain ⟨rfl, rfl⟩ := h2
    obtain ⟨e1, e2⟩ := evenly_spec hev
    refine ⟨.slice (some ⟨b', off, none⟩) n n, by simp [execOp, ho, h4, Instr.sliceAt, run_underlying hu, Instr.sureAddr, Instr.sliceBounds, run_sizeOf' hi, hn0, addr_add], ?_⟩
    refine ⟨_, by simp [isPack, AV.isAgg]; rfl, ?_⟩
    simp only [rc]
    refine ⟨b', zz.sh, off, AV.shs gs, k2, h3, sh_part p zz _ k4, ?_, ?_, ?_, ?_⟩
    · rw [AV.shs_eq_map, List.length_map, e1]; simp
    · rw [AV.shs_eq_map, List.length_map, e1]; exact hn
    · rw [AV.shs_eq_map, List.length_map, e1]; omega
    · rw [AV.shs_eq_map]
      intro s hs'
      obtain ⟨f, hf, rfl⟩ := List.mem_map.1 hs'
      rw [AV.sh_size]; exact e2 f hf
/-! ### a slice of a slice -/
theorem rcs_take_drop {w : World} {D : Dom} {E : Env} {b off sz : Nat} {cs : List Value} {es : List AV} (h1 : reads w D b off cs) (h2 : rcs w D E es cs) (h3 : ∀ e ∈ es, e.size = sz) (l h : Nat) (hl : l ≤ h) (hh : h ≤ es.length) :
    ∃ c2, reads w D b (off + l * sz) c2 ∧ rcs w D E ((es.take h).drop l) c2 := by
  have hspl : ∀ (xs ys : List AV) (cs : List Value), rcs w D E (xs ++ ys) cs → ∃ c1 c2, cs = c1 ++ c2 ∧ rcs w D E xs c1 ∧ rcs w D E ys c2 := by
    intro xs
    induction xs with
    | nil => intro ys cs hr; exact ⟨[], cs, rfl, by simp [rcs], hr⟩
    | cons x xs ih =>
      intro ys cs hr
      simp only [List.cons_append, rcs] at hr
      obtain ⟨d1, d2, rfl, k1, k2⟩ := hr
      obtain ⟨e1, e2, rfl, k3, k4⟩ := ih ys d2 k2
      exact ⟨d1 ++ e1, e2, by simp, by simp only [rcs]; exact ⟨d1, e1, rfl, k1, k3⟩, k4⟩
  have e1 : es = es.take l ++ ((es.take h).drop l ++ es.drop h) := by
    rw [← List.append_assoc]
    conv => lhs; rw [← List.take_append_drop h es]
    congr 1
    rw [← List.take_take_drop_eq l h es hl]
  rw [e1] at h2
  obtain ⟨c1, c', rfl, k1, k2⟩ := hspl _ _ _ h2
  obtain ⟨c2, c3, rfl, k3, k4⟩ := hspl _ _ _ k2
  refine ⟨c2, ?_, k3⟩
  rw [← sizes_take_even es l h3 (by omega), ← rcs.length _ _ k1]
  rw [← List.append_assoc] at h1
  exact reads_part h1
  where
  List.take_take_drop_eq {α : Type} (l h : Nat) (es : List α) (hl : l ≤ h) : es.take h = es.take l ++ (es.take h).drop l := by
    conv => lhs; rw [← List.take_append_drop l (es.take h)]
    rw [List.take_take, Nat.min_eq_left hl]
def optRv (w : World) (D : Dom) (E : Env) (x : Option AV) (v : Option Value) : Prop := match x, v with
  | none, none => True
  | some x, some v => rv w D E x v
  | _, _ => False
theorem bound_some {x : AV} {d n : Int} (h : bound (some x) d = some n) : ∃ k, x = .int k n := by
  cases x <;> simp [bound] at h
  subst h
  exact ⟨_, rfl⟩
theorem opt_cases {w : World} {D : Dom} {E : Env} {x : Option AV} {v : Option Value} {d n : Int} (h : optRv w D E x v) (hb : bound x d = some n) :
    (x = none ∧ v = none ∧ d = n) ∨ (x.isSome = true ∧ ∃ k, v = some (.int k n)) := by
  cases x with
  | none =>
    cases v with
    | some _ => simp [optRv] at h
    | none => simp only [bound, Option.some.injEq] at hb; exact .inl ⟨rfl, rfl, hb⟩
  | some x =>
    cases v with
    | none => simp [optRv] at h
    | some v =>
      obtain ⟨k, rfl⟩ := bound_some hb
      simp only [optRv] at h
      exact .inr ⟨rfl, k, by rw [(rv_int h).1]⟩
theorem run_slice_known {P : Program} {w : World} {D : Dom} {E : Env} {t e : TypeId} {i : TypeInfo} {sz : Nat} {es : List AV} {lo hi mx : Option AV} {vlo vhi vmx : Option Value} {x : AV} {ad : Option Addr} {cap : Nat}
    (hu : P.underlying t = some (.slice e)) (hi' : P.info? e = some i) (hsz : sz = P.cellsOf e) (hmh : mx.isSome = true → hi.isSome = true)
    (h1 : optRv w D E lo vlo) (h2 : optRv w D E hi vhi) (h3 : optRv w D E mx vmx) (hx : sliceOf sz es lo hi mx = some x)
    (hcap : es.length ≤ cap) (hcm : cap ≤ maxLen) (hes : es = [] ∨ ∃ b off cs, ad = some ⟨b, off, none⟩ ∧ reads w D b off cs ∧ rcs w D E es cs) (hall : ∀ e ∈ es, e.size = sz) :
    ∃ v, (Instr.sliceAt t (.slice ad es.length cap) vlo vhi vmx).run P w = .ok v w ∧ rv w D E x v := by
  unfold sliceOf at hx
  split at hx
  · cases hx
  rename_i h hh
  split at hx
  · cases hx
  rename_i m hm
  split at hx
  · cases hx
  rename_i l hl
  split at hx
  case isFalse => cases hx
  rename_i hb
  obtain ⟨b1, b2, b3, b4⟩ := hb
  have sb : ∀ (k : IntKind) (n : Int) (y : Nat) (code : BoundsCode), 0 ≤ n → n ≤ y → (Instr.sliceBound (.int k n) y code).run P w = .ok n.toNat w := fun k n y code g1 g2 => by
    simp [Instr.sliceBound, asIntOf, g1, g2]
  -- the bounds that the program finds
  have key : ∃ m' : Nat, es.length ≤ cap ∧ m' ≤ cap ∧ h.toNat ≤ m' ∧ (mx.isSome = true → m' = m.toNat) ∧ (mx = none → m' = cap) ∧
      (Instr.sliceBounds true es.length cap vlo vhi vmx).run P w = .ok (l.toNat, h.toNat, m') w := by
    have c1 := opt_cases h1 hl
    have c2 := opt_cases h2 hh
    have c3 := opt_cases h3 hm
    clear h1 h2 h3
    rcases c3 with ⟨rfl, rfl, hm3⟩ | ⟨s3, k3, rfl⟩
    · refine ⟨cap, hcap, Nat.le_refl _, by omega, fun e => (by cases e), fun _ => rfl, ?_⟩
      rcases c2 with ⟨rfl, rfl, hm2⟩ | ⟨s2, k2, rfl⟩ <;> rcases c1 with ⟨rfl, rfl, hm1⟩ | ⟨s1, k1, rfl⟩
      · subst hm1 hm2; simp [Instr.sliceBounds]
      · subst hm2; simp [Instr.sliceBounds, sb k1 l es.length _ b1 (by omega)]
      · subst hm1; simp [Instr.sliceBounds, sb k2 h cap _ (by omega) (by omega)]
      · simp [Instr.sliceBounds, sb k2 h cap _ (by omega) (by omega), sb k1 l h.toNat _ b1 (by omega)]
    · refine ⟨m.toNat, hcap, by omega, by omega, fun _ => rfl, fun e => (by rw [e] at s3; cases s3), ?_⟩
      rcases c2 with ⟨rfl, rfl, hm2⟩ | ⟨s2, k2, rfl⟩
      · simp [s3] at hmh
      · rcases c1 with ⟨rfl, rfl, hm1⟩ | ⟨s1, k1, rfl⟩
        · subst hm1; simp [Instr.sliceBounds, sb k3 m cap _ (by omega) (by omega), sb k2 h m.toNat _ (by omega) (by omega)]
        · simp [Instr.sliceBounds, sb k3 m cap _ (by omega) (by omega), sb k2 h m.toNat _ (by omega) (by omega), sb k1 l h.toNat _ b1 (by omega)]
  obtain ⟨m', g1, g2, g3, g4, g5, hsb⟩ := key
  have hrun : (Instr.sliceAt t (.slice ad es.length cap) vlo vhi vmx).run P w =
      .ok (.slice (if m' = l.toNat then ad else ad.map (·.add (l.toNat * P.cellsOf e))) (h.toNat - l.toNat) (m' - l.toNat)) w := by
    simp only [Instr.sliceAt, Instr.slice, Sem.run_bind, run_underlying hu, Result.andThen_ok, hsb, run_sizeOf' hi', Sem.run_pure]
  refine ⟨_, hrun, ?_⟩
  split at hx
  · rename_i hc
    simp only [Option.some.injEq] at hx
    subst hx
    have e1 : m' = l.toNat := by rw [g4 hc.1, hc.2]
    have e2 : h.toNat - l.toNat = 0 := by omega
    rw [if_pos e1, e2, e1, Nat.sub_self]
    exact ⟨_, by simp [isPack, AV.isAgg]; rfl, by simp only [rc]; exact ⟨ad, rfl⟩⟩
  · simp only [Option.some.injEq] at hx
    subst hx
    have hlen : ((es.take h.toNat).drop l.toNat).length = h.toNat - l.toNat := by simp; omega
    refine mk_slice hlen.symm (by omega) (by omega) ?_ (fun y hy => hall y (List.mem_of_mem_take (List.mem_of_mem_drop hy)))
    by_cases hz : h.toNat = l.toNat
    · left; exact List.eq_nil_of_length_eq_zero (by omega)
    · right
      rw [if_neg (by omega)]
      rcases hes with rfl | ⟨b, off, cs, rfl, q1, q2⟩
      · simp at b4 g3; omega
      · obtain ⟨c2, q3, q4⟩ := rcs_take_drop q1 q2 hall l.toNat h.toNat (by omega) (by omega)
        exact ⟨b, off + l.toNat * sz, c2, by simp [addr_add, hsz], q3, q4⟩
theorem gives_sl {t e : TypeId} {y : Operand} {y' : AOpd} {lo hi mx : Option Operand} {lo' hi' mx' : Option AOpd} {i : TypeInfo} {es : List AV} (ho : o.op = .slice t y lo hi mx) (hu : c.P.underlying t = some (.slice e)) (hi0 : c.P.info? e = some i)
    (hy : cOpd c.P 0 y = some y') (h1 : cOpt c.P lo = some lo') (h2 : cOpt c.P hi = some hi') (h3 : cOpt c.P mx = some mx') (hmh : mx'.isSome = true → hi'.isSome = true)
    (h : ev A y' = .slice (c.P.cellsOf e) es ∨ (ev A y' = .nils (c.P.cellsOf e) ∧ es = []) ∨ (ev A y' = .c0 (c.P.cellsOf e) ∧ es = [])) (hx : sliceOf (c.P.cellsOf e) es (lo'.map (ev A)) (hi'.map (ev A)) (mx'.map (ev A)) = some x) : Gives c A o x :=
  .same fun a w D E hs => by
    have opt : ∀ {q : Option Operand} {q' : Option AOpd}, cOpt c.P q = some q' → optRv w D E (q'.map (ev A)) (q.map a.eval) := by
      intro q q' hq
      cases q with
      | none => simp only [cOpt, Option.some.injEq] at hq; subst hq; simp [optRv]
      | some z =>
        simp only [cOpt, Option.map_eq_some_iff] at hq
        obtain ⟨z', hz, rfl⟩ := hq
        simpa [optRv] using ev_ok hs hz
    have h0 := ev_ok hs hy
    have hmh' : (mx'.map (ev A)).isSome = true → (hi'.map (ev A)).isSome = true := by simpa using hmh
    rcases h with h | ⟨h, rfl⟩ | ⟨h, rfl⟩
    · rw [h] at h0
      obtain ⟨ad, cap, e1, e2, e3, e4, e5⟩ := rv_slice h0
      obtain ⟨v, k1, k2⟩ := run_slice_known hu hi0 rfl hmh' (opt h1) (opt h2) (opt h3) hx e2 e3 e4 e5
      exact ⟨v, by simp only [execOp, ho, e1, Sem.run_bind, k1]; rfl, k2⟩
    · rw [h] at h0
      obtain ⟨cs, q1, q2⟩ := h0
      simp only [rc] at q2
      have e1 : a.eval y = .slice none ([] : List AV).length 0 := by simpa [isPack, AV.isAgg, q2] using q1.symm
      obtain ⟨v, k1, k2⟩ := run_slice_known (ad := none) (cap := 0) hu hi0 rfl hmh' (opt h1) (opt h2) (opt h3) hx (by simp) (by simp [maxLen]) (.inl rfl) (by simp)
      exact ⟨v, by simp only [execOp, ho, e1, Sem.run_bind, k1]; rfl, k2⟩
    · rw [h] at h0
      obtain ⟨cs, q1, q2⟩ := h0
      simp only [rc] at q2
      obtain ⟨ad, q2⟩ := q2
      have e1 : a.eval y = .slice ad ([] : List AV).length 0 := by simpa [isPack, AV.isAgg, q2] using q1.symm
      obtain ⟨v, k1, k2⟩ := run_slice_known (ad := ad) (cap := 0) hu hi0 rfl hmh' (opt h1) (opt h2) (opt h3) hx (by simp) (by simp [maxLen]) (.inl rfl) (by simp)
      exact ⟨v, by simp only [execOp, ho, e1, Sem.run_bind, k1]; rfl, k2⟩
end
end Go.Abs

/-
  THE ABSTRACT LAYER, 8: composite values, literals of slices, closures, comparisons. Over any program.
-/
namespace Go.Abs
open Go Go.RowKit
inductive All2 {α β : Type} (R : α → β → Prop) : List α → List β → Prop where
  | nil : All2 R [] []
  | cons {x : α} {y : β} {xs : List α} {ys : List β} : R x y → All2 R xs ys → All2 R (x :: xs) (y :: ys)
section
variable {c : Ctx} {A : AState} {o : Oper} {x : AV}
theorem rcs_set {w : World} {D : Dom} {E : Env} {xs : List AV} {cs ds : List Value} {i : Nat} {x y : AV} (h : rcs w D E xs cs) (hx : xs[i]? = some x) (hy : rc w D E y ds) (hs : y.size = x.size) :
    AV.sizes (xs.take i) + ds.length ≤ cs.length ∧ rcs w D E (xs.set i y) (cs.take (AV.sizes (xs.take i)) ++ ds ++ cs.drop (AV.sizes (xs.take i) + ds.length)) := by
  obtain ⟨c1, c2, c3, rfl, h1, h2, h3, h4⟩ := rcs_split xs cs i x h hx
  have hi : i < xs.length := (List.getElem?_eq_some_iff.1 hx).1
  have hl : ds.length = c2.length := by rw [rc.length _ _ hy, rc.length _ _ h3, hs]
  refine ⟨by simp only [List.length_append, h1]; omega, ?_⟩
  have e1 : xs.set i y = xs.take i ++ y :: xs.drop (i + 1) := by rw [List.set_eq_take_append_cons_drop]; simp [hi]
  have e2 : (c1 ++ c2 ++ c3).take (AV.sizes (xs.take i)) ++ ds ++ (c1 ++ c2 ++ c3).drop (AV.sizes (xs.take i) + ds.length) = c1 ++ (ds ++ c3) := by
    rw [← h1, hl, List.append_assoc c1 c2 c3, List.take_left, List.drop_length_add_append, List.drop_left, List.append_assoc]
  rw [e1, e2]
  refine rcs_append _ _ _ _ h2 ?_
  simp only [rcs]
  exact ⟨ds, c3, rfl, hy, h4⟩
theorem foldl_set_list (off : Nat) (l : List Value) (cs : Array Value) (h : off + l.length ≤ cs.size) :
    ((l.zipIdx 0).foldl (fun cs (x : Value × Nat) => cs.setIfInBounds (off + x.2) x.1) cs).toList = cs.toList.take off ++ l ++ cs.toList.drop (off + l.length) := by
  obtain ⟨h1, h2⟩ := Great.foldl_set off l 0 cs
  apply List.ext_getElem?
  intro k
  rw [Array.getElem?_toList, h2 k]
  simp only [Nat.add_zero, List.append_assoc]
  by_cases hk : k < off
  · rw [if_neg (by omega), List.getElem?_append_left (by simp; omega)]
    simp [hk]
  · rw [List.getElem?_append_right (by simp; omega)]
    simp only [List.length_take, Array.length_toList, Nat.min_eq_left (show off ≤ cs.size by omega)]
    by_cases hk2 : k < off + l.length
    · rw [if_pos ⟨by omega, by omega, by omega⟩, List.getElem?_append_left (by omega)]
    · rw [if_neg (by omega), List.getElem?_append_right (by omega)]
      simp only [List.getElem?_drop, Array.getElem?_toList]
      congr 1
      omega
/-- Parts laid into a value of many cells. -/
theorem fill_ok {w : World} {D : Dom} {E : Env} (pl : Nat → Option (Nat × Nat)) : ∀ (ps : List (Nat × AV)) (vs : List (Nat × Value)) (zs zs' : List AV) (cells : Array Value),
    (∀ i z, zs[i]? = some z → pl i = some (AV.sizes (zs.take i), z.size)) → rcs w D E zs cells.toList → setParts zs ps = some zs' →
    All2 (fun (p : Nat × AV) (v : Nat × Value) => p.1 = v.1 ∧ rv w D E p.2 v.2) ps vs →
    ∃ cells', Instr.fill pl cells vs = some cells' ∧ rcs w D E zs' cells'.toList
  | [], vs, zs, zs', cells, hp, hr, hs, hf => by
    cases hf
    simp only [setParts, Option.some.injEq] at hs
    subst hs
    exact ⟨cells, rfl, hr⟩
  | (i, y) :: ps, vs, zs, zs', cells, hp, hr, hs, hf => by
    cases hf with
    | cons h1 h2 =>
      rename_i v vs
      obtain ⟨j, u⟩ := v
      simp only at h1
      obtain ⟨rfl, hv⟩ := h1
      simp only [setParts] at hs
      split at hs
      · rename_i z hz
        split at hs
        · rename_i hsz
          obtain ⟨hval, hsz⟩ := hsz
          obtain ⟨ds, k1, k2⟩ : ∃ ds, isPack y u ds ∧ rc w D E y ds := by
            cases y <;> simp [AV.isVal] at hval <;> exact hv
          have hcells := k1.cells k2
          have hds : u.cells.size = z.size := by rw [← Array.length_toList, hcells, rc.length _ _ k2, hsz]
          obtain ⟨k3, k4⟩ := rcs_set hr hz k2 hsz
          have hcl : cells.toList.length = cells.size := Array.length_toList
          have hl : ds.length = u.cells.size := by rw [← hcells, Array.length_toList]
          have hp' : ∀ k z', (zs.set i y)[k]? = some z' → pl k = some (AV.sizes ((zs.set i y).take k), z'.size) := by
            intro k z' hk
            have hil : i < zs.length := (List.getElem?_eq_some_iff.1 hz).1
            have hsizes : ∀ k, AV.sizes ((zs.set i y).take k) = AV.sizes (zs.take k) := by
              intro k
              have gen : ∀ (zs : List AV) (i k : Nat) (z : AV), zs[i]? = some z → z.size = y.size → AV.sizes ((zs.set i y).take k) = AV.sizes (zs.take k) := by
                intro zs
                induction zs with
                | nil => intro i k z hz _; simp at hz
                | cons q qs ih =>
                  intro i k z hz he
                  cases k with
                  | zero => simp
                  | succ k =>
                    cases i with
                    | zero =>
                      simp only [List.getElem?_cons_zero, Option.some.injEq] at hz
                      subst hz
                      simp [AV.sizes, he]
                    | succ i =>
                      simp only [List.set_cons_succ, List.take_succ_cons, AV.sizes, ih i k z (by simpa using hz) he]
              exact gen zs i k z hz hsz.symm
            rw [hsizes]
            rw [List.getElem?_set] at hk
            split at hk
            · rename_i hik
              subst hik
              simp only [hil, if_true, Option.some.injEq] at hk
              subst hk
              rw [hp i z hz, hsz]
            · exact hp k z' hk
          have hfold := foldl_set_list (AV.sizes (zs.take i)) u.cells.toList cells (by rw [hcells]; omega)
          rw [hcells] at hfold
          obtain ⟨cells', k5, k6⟩ := fill_ok pl ps vs (zs.set i y) zs' ((u.cells.toList.zipIdx 0).foldl (fun cs (x : Value × Nat) => cs.setIfInBounds (AV.sizes (zs.take i) + x.2) x.1) cells) hp'
            (by rw [hcells, hfold]; exact k4) hs h2
          refine ⟨cells', ?_, k6⟩
          unfold Instr.fill
          simp only [hp i z hz]
          rw [if_neg (by simp [hds]; omega)]
          rw [← k5]
          congr 1
          rw [← Array.foldl_toList, Array.toList_zipIdx]
        · cases hs
      · cases hs
theorem parts_ok {a : Act} {w : World} {D : Dom} {E : Env} (hs : SimW c A a w D E) {P : Program} : ∀ (ps : List (Nat × Operand)) (qs : List (Nat × AOpd)), cParts P ps = some qs →
    All2 (fun (p : Nat × AV) (v : Nat × Value) => p.1 = v.1 ∧ rv w D E p.2 v.2) (qs.map fun p => (p.1, ev A p.2)) (ps.map fun p => (p.1, a.eval p.2))
  | [], qs, h => by simp [cParts] at h; subst h; exact .nil
  | (i, x) :: ps, qs, h => by
    simp only [cParts, List.mapM_cons, Option.bind_eq_bind, Option.pure_def, Option.bind_eq_some_iff, Option.map_eq_some_iff, Option.some.injEq] at h
    obtain ⟨_, ⟨y, hy, rfl⟩, qs', hq, rfl⟩ := h
    exact .cons ⟨rfl, ev_ok hs hy⟩ (parts_ok hs ps qs' hq)
theorem gives_bld {t : TypeId} {parts : Array (Nat × Operand)} {ps : List (Nat × AOpd)} {zs zs' : List AV} (ho : o.op = .build t parts) (hz : zeroAV c.P t = some (.agg zs)) (hp : cParts c.P parts.toList = some ps)
    (hpl : (∃ fs, c.P.underlying t = some (.struct fs) ∧ (fs.toList.map fun f => (f.offset, c.P.cellsOf f.type)) = places 0 zs ∧ (fs.all fun f => (c.P.info? f.type).isSome) = true) ∨
      (∃ n e, c.P.underlying t = some (.array n e) ∧ zs.length = n ∧ (zs.all fun z => z.size == c.P.cellsOf e) = true ∧ (c.P.info? e).isSome = true))
    (h : setParts zs (ps.map fun p => (p.1, ev A p.2)) = some zs') : Gives c A o (.agg zs') :=
  .same fun a w D E hs => by
    obtain ⟨i, z, hi, hzv, hzr⟩ := zeroAV_ok hz
    have hzr := hzr w D E
    simp only [rc] at hzr
    have hparts := parts_ok hs parts.toList ps hp
    have hmap : (parts.map fun (q : Nat × Operand) => (q.1, a.eval q.2)).toList = parts.toList.map fun p => (p.1, a.eval p.2) := by simp
    rcases hpl with ⟨fs, hu, hoffs, hinfo⟩ | ⟨n, e, hu, hn, hev, hinfo⟩
    · have hpl : ∀ i z, zs[i]? = some z → (places 0 zs)[i]? = some (AV.sizes (zs.take i), z.size) := by
        intro i z hiz; rw [places_get, hiz]; simp
      obtain ⟨cells', k1, k2⟩ := fill_ok ((places 0 zs)[·]?) _ _ zs zs' z.cells hpl hzr h hparts
      have hm : fs.toList.mapM (fun f => (c.P.info? f.type).map fun i => (f.offset, i.size)) = some (places 0 zs) := by
        rw [← hoffs]
        have hall : ∀ f ∈ fs.toList, (c.P.info? f.type).isSome = true := fun f hf => by
          have := (Array.all_eq_true_iff_forall_mem.1 hinfo) f (by simpa using hf)
          exact this
        revert hall
        generalize fs.toList = l
        intro hall
        induction l with
        | nil => rfl
        | cons f l ih =>
          obtain ⟨j, hj⟩ := Option.isSome_iff_exists.1 (hall f (by simp))
          simp only [List.mapM_cons, Option.bind_eq_bind, hj, Option.map_some, Option.bind_some, ih (fun g hg => hall g (by simp [hg])), Option.pure_def, List.map_cons, Program.cellsOf, Option.getD_some]
      have hb : c.P.built t (parts.map fun (q : Nat × Operand) => (q.1, a.eval q.2)).toList = some cells' := by
        unfold Program.built
        simp only [hi, hu, hzv, hm]
        rw [hmap, ← k1]
        congr 1
        funext k
        simp
      exact ⟨.agg cells', by simp only [execOp, ho, Sem.run_bind, run_build w t _ _ hb]; rfl, by have := mk_agg k2; simpa using this⟩
    · obtain ⟨ie, hie⟩ := Option.isSome_iff_exists.1 hinfo
      have hev' : ∀ z ∈ zs, z.size = ie.size := fun z hz => by
        have := List.all_eq_true.1 hev z hz
        simpa [Program.cellsOf, hie] using this
      have hpl : ∀ i z, zs[i]? = some z → (fun i => some (i * ie.size, ie.size)) i = some (AV.sizes (zs.take i), z.size) := by
        intro i z hiz
        have hl : i < zs.length := (List.getElem?_eq_some_iff.1 hiz).1
        rw [sizes_take_even zs i hev' (by omega), hev' z (List.mem_of_getElem? hiz)]
      obtain ⟨cells', k1, k2⟩ := fill_ok (fun i => some (i * ie.size, ie.size)) _ _ zs zs' z.cells hpl hzr h hparts
      have hb : c.P.built t (parts.map fun (q : Nat × Operand) => (q.1, a.eval q.2)).toList = some cells' := by
        unfold Program.built
        simp only [hi, hu, hzv, hie]
        rw [hmap, ← k1]
      exact ⟨.agg cells', by simp only [execOp, ho, Sem.run_bind, run_build w t _ _ hb]; rfl, by have := mk_agg k2; simpa using this⟩
theorem args_ok {a : Act} {w : World} {D : Dom} {E : Env} (hs : SimW c A a w D E) {P : Program} : ∀ (xs : List Operand) (ts : List TypeId) (ys : List AOpd), cArgs P xs ts = some ys →
    All2 (rv w D E) (ys.map (ev A)) (xs.map a.eval)
  | [], _, ys, h => by simp [cArgs] at h; subst h; exact .nil
  | x :: xs, ts, ys, h => by
    simp only [cArgs] at h
    split at h
    · rename_i y ys' h1 h2
      simp only [Option.some.injEq] at h
      subst h
      exact .cons (ev_ok hs h1) (args_ok hs xs _ ys' h2)
    · cases h
theorem rvs_of {w : World} {D : Dom} {E : Env} : ∀ (xs : List AV) (vs : List Value), All2 (rv w D E) xs vs → (∀ x ∈ xs, x.isVal = true) → rvs w D E xs vs
  | [], vs, h, _ => by cases h; simp [rvs]
  | x :: xs, vs, h, hv => by
    cases h with
    | cons h1 h2 =>
      rename_i v vs
      have hx := hv x (by simp)
      obtain ⟨cs, k1, k2⟩ : ∃ cs, isPack x v cs ∧ rc w D E x cs := by
        cases x <;> simp [AV.isVal] at hx <;> exact h1
      simp only [rvs]
      exact ⟨v, vs, cs, rfl, k1, k2, rvs_of xs vs h2 (fun y hy => hv y (by simp [hy]))⟩
theorem fins_isVal {bx : Bool} {B : AState} : ∀ {xs ys : List AV}, fins bx B xs = some ys → ∀ x ∈ xs, x.isVal = true
  | [], ys, _, x, hx => by simp at hx
  | y :: xs, ys, h, x, hx => by
    simp only [fins] at h
    split at h
    · rename_i z zs h1 h2
      rcases List.mem_cons.1 hx with rfl | hx
      · cases x <;> simp_all [fin, AV.isVal]
      · exact fins_isVal h2 x hx
    · cases h
theorem gives_mk {f : FuncId} {caps : Array Operand} {ys : List AOpd} (ho : o.op = .makeFunc (.func f) #[] caps) (hc : cArgs c.P caps.toList [] = some ys) (hv : ∀ y ∈ ys, (ev A y).isVal = true) : Gives c A o (.func f (ys.map (ev A))) :=
  .same fun a w D E hs => by
    have h := rvs_of _ _ (args_ok hs caps.toList [] ys hc) (by simpa using hv)
    have e : caps.map a.eval = (caps.toList.map a.eval).toArray := by apply Array.ext'; simp
    refine ⟨.func (.func f) #[] (caps.toList.map a.eval).toArray, by simp [execOp, ho, Instr.makeFunc, e], ⟨_, by simp [isPack, AV.isAgg]; rfl, ?_⟩⟩
    simp only [rc]
    exact ⟨_, rfl, h⟩
/-- Elements of equal size, each a value's cells. -/
theorem rvs_flat {w : World} {D : Dom} {E : Env} : ∀ (xs : List AV) (vs : List Value), rvs w D E xs vs → rcs w D E xs (vs.flatMap fun v => v.cells.toList) ∧ vs.length = xs.length ∧ ∀ (sz : Nat), (∀ x ∈ xs, x.size = sz) → ∀ v ∈ vs, v.cells.size = sz
  | [], vs, h => by simp only [rvs] at h; subst h; simp [rcs]
  | x :: xs, vs, h => by
    simp only [rvs] at h
    obtain ⟨v, rest, cs, rfl, h1, h2, h3⟩ := h
    obtain ⟨k1, k2, k3⟩ := rvs_flat xs rest h3
    have hc := h1.cells h2
    refine ⟨?_, by simp [k2], fun sz hsz u hu => ?_⟩
    · simp only [List.flatMap_cons, rcs]
      exact ⟨_, _, rfl, by rw [hc]; exact h2, k1⟩
    · rcases List.mem_cons.1 hu with rfl | hu
      · rw [← Array.length_toList, hc, rc.length _ _ h2, hsz x (by simp)]
      · exact k3 sz (fun y hy => hsz y (by simp [hy])) u hu
/-- All rows' own cells may be read for good. -/
def rowsDom (A : AState) (D : Dom) (E : Env) : Dom := fun b o => D b o ∨ ∃ n T sz es cap, A.o n = some (.row T sz es) ∧ E n = some (.rw (some (b, cap)) es.length) ∧ o < es.length * sz
theorem SimW.shareAll {a : Act} {w : World} {D : Dom} {E : Env} (h : SimW c A a w D E) : SimW c A a w (rowsDom A D E) E ∧ Wide false A D E (rowsDom A D E) := by
  have hblk : ∀ {n T sz es b cap}, A.o n = some (.row T sz es) → E n = some (.rw (some (b, cap)) es.length) → c.Mine b ∧ b < w.heap.size := by
    intro n T sz es b cap hn hE
    obtain ⟨blk, k1, k2, k3⟩ := h.row hn
    rw [hE] at k1
    simp only [Option.some.injEq, Ent.rw.injEq, and_true] at k1
    subst k1
    obtain ⟨cs, pre, rest, k4, k5, _⟩ := k3
    exact ⟨k4, heap_lt k5⟩
  refine ⟨h.widen (fun _ _ hd => .inl hd) ?_ ?_ ?_ ?_ ?_, ⟨fun _ _ hd => .inl hd, fun n T sz es b cap hn hE o ho => .inr ⟨n, T, sz, es, cap, hn, hE, ho⟩, fun hb => by cases hb⟩⟩
  · rintro b o (hd | ⟨n, T, sz, es, cap, hn, hE, ho⟩) hlt
    · exact h.dom _ _ hd hlt
    · exact absurd (hblk hn hE).1 hlt
  · rintro b o (hd | ⟨n, T, sz, es, cap, hn, hE, ho⟩)
    · exact h.live _ _ hd
    · exact (hblk hn hE).2
  · rintro m x b hm hEm o (hd | ⟨n, T, sz, es, cap, hn, hE, ho⟩)
    · obtain ⟨b2, cs2, T2, q1, q2, q3, q4, q5⟩ := h.box hm
      rw [q1] at hEm
      simp only [Option.some.injEq, Ent.bx.injEq, and_true] at hEm
      subst hEm
      exact q5 o hd
    · have := h.sep m n _ _ b hEm hE rfl rfl
      subst this
      rw [hm] at hn
      cases hn
  · rintro m T' sz' es' b cap' hm hEm o (hd | ⟨n, T, sz, es, cap, hn, hE, ho⟩)
    · obtain ⟨blk, q1, q2, q3⟩ := h.row hm
      rw [hEm] at q1
      simp only [Option.some.injEq, Ent.rw.injEq, and_true] at q1
      subst q1
      obtain ⟨cs', pre', rest', q4, q5, q6, q7, q8, q9, q10, q11⟩ := q3
      have := q11 o hd
      rwa [rcs.length _ _ q7, AV.sizes_const _ q2] at this
    · have := h.sep m n _ _ b hEm hE rfl rfl
      subst this
      rw [hm] at hn
      simp only [Option.some.injEq, AO.row.injEq] at hn
      obtain ⟨rfl, rfl, rfl⟩ := hn
      exact ho
  · rintro m b hE' o (hd | ⟨n, T, sz, es, cap, hn, hE, ho⟩)
    · exact h.opNo hE' o hd
    · have := h.sep m n _ _ b hE' hE rfl rfl
      subst this
      rw [hE'] at hE
      cases hE
theorem parts_vals {a : Act} {w : World} {D : Dom} {E : Env} (hs : SimW c A a w D E) {P : Program} : ∀ (ps : List (Nat × Operand)) (qs : List (Nat × AOpd)), cParts P ps = some qs →
    All2 (rv w D E) ((qs.map (·.2)).map (ev A)) (ps.map fun p => a.eval p.2) ∧ qs.map (·.1) = ps.map (·.1)
  | [], qs, h => by simp [cParts] at h; subst h; exact ⟨.nil, rfl⟩
  | (i, x) :: ps, qs, h => by
    simp only [cParts, List.mapM_cons, Option.bind_eq_bind, Option.pure_def, Option.bind_eq_some_iff, Option.map_eq_some_iff, Option.some.injEq] at h
    obtain ⟨_, ⟨y, hy, rfl⟩, qs', hq, rfl⟩ := h
    obtain ⟨h1, h2⟩ := parts_vals hs ps qs' hq
    exact ⟨.cons (ev_ok hs hy) h1, by simp [h2]⟩
/-- A new block of cells that nobody writes any more. -/
theorem SimW.newRow {a : Act} {w : World} {D : Dom} {E : Env} (h : SimW c A a w D E) (o : Obj) : SimW c A a (w.alloc o) (fun b k => D b k ∨ b = w.heap.size) E := by
  refine h.grow (below_alloc w o) (fun _ _ hd => .inl hd) ?_ ?_
  · rintro b k (hd | rfl) hlt
    · exact hd
    · omega
  · rintro b k (hd | rfl)
    · have := h.live _ _ hd; simp; omega
    · simp
theorem zip_idx_parts {α : Type} (ps : List (Nat × α)) (h : ps.map (·.1) = List.range ps.length) : ps = ((ps.map (·.2)).zipIdx 0).map fun x => (x.2, x.1) := by
  apply List.ext_getElem?
  intro k
  rw [List.getElem?_map, List.getElem?_zipIdx, List.getElem?_map]
  cases hk : ps[k]? with
  | none => simp
  | some p =>
    have hl : k < ps.length := (List.getElem?_eq_some_iff.1 hk).1
    have := congrArg (·[k]?) h
    simp only [List.getElem?_map, hk, Option.map_some, List.getElem?_range hl, Option.some.injEq] at this
    simp [← this]
theorem gives_bs {t e : TypeId} {len : Nat} {parts : Array (Nat × Operand)} {ps : List (Nat × AOpd)} {es : List AV} (ho : o.op = .buildSlice t len parts) (hu : c.P.underlying t = some (.slice e)) (hp : cParts c.P parts.toList = some ps)
    (hr : ps.map (·.1) = List.range len) (h0 : 0 < c.P.cellsOf e) (hlen : 0 < len) (hsm : len * c.P.cellsOf e ≤ 16777216) (hz : ((c.P.info? e).bind (·.zero)).isSome = true)
    (hes : fins false A ((ps.map (·.2)).map (ev A)) = some es) (hev : ∀ x ∈ es, x.size = c.P.cellsOf e) (hcl : AV.closeds es = true) : Gives c A o (.slice (c.P.cellsOf e) es) := by
  intro a w D E hs
  obtain ⟨hfor, hidx⟩ := parts_vals hs parts.toList ps hp
  obtain ⟨hs1, hw⟩ := hs.shareAll
  have hrv := fin_rvs (E' := E) hs (fun _ _ h => h) hw _ es _ (rvs_of _ _ hfor (fins_isVal hes)) hes
  obtain ⟨k1, k2, k3⟩ := rvs_flat es _ hrv
  have k3 := k3 _ hev
  have hl : parts.toList.length = len := by
    have := congrArg List.length hidx
    rw [hr] at this
    simpa using this.symm
  have hesl : es.length = len := by rw [← k2]; simp [hl]
  obtain ⟨z, hz⟩ := Option.isSome_iff_exists.1 hz
  obtain ⟨ie, hie, hzz⟩ := Option.bind_eq_some_iff.1 hz
  have hsz : ie.size = c.P.cellsOf e := by simp [Program.cellsOf, hie]
  -- the literal's cells
  have hfill : Instr.fill (fun i => some (i * ie.size, ie.size)) ((Array.range (len * ie.size)).map (z.cells[· % z.cells.size]!)) (parts.map fun (q : Nat × Operand) => (q.1, a.eval q.2)).toList =
      some ((parts.toList.map fun p => a.eval p.2).flatMap fun v => v.cells.toList).toArray := by
    have hpz : (parts.map fun (q : Nat × Operand) => (q.1, a.eval q.2)).toList = ((parts.toList.map fun p => a.eval p.2).zipIdx 0).map fun x => (x.2, x.1) := by
      have := zip_idx_parts (parts.toList.map fun (q : Nat × Operand) => (q.1, a.eval q.2)) (by simp only [List.map_map, List.length_map]; rw [hl, ← hr, hidx]; rfl)
      rw [Array.toList_map, this, List.map_map]
      rfl
    rw [hpz, hsz]
    exact Great.fill_whole h0 _ _ (fun v hv => k3 v hv) (by simp [hl])
  have hrun := run_buildSlice (P := c.P) w t e len (parts.map fun (q : Nat × Operand) => (q.1, a.eval q.2)) _ ie z hu hie hzz (by rw [hsz]; omega) (by rw [hsz]; exact Nat.ne_of_gt (Nat.mul_pos hlen h0)) hfill
  generalize hcells : ((parts.toList.map fun p => a.eval p.2).flatMap fun v => v.cells.toList) = cells at *
  have hs2 := hs1.newRow (.cells cells.toArray e)
  refine ⟨_, _, _, by simp only [execOp, ho, Sem.run_bind]; rw [hrun]; rfl, hs2, mk_slice hesl.symm (Nat.le_refl _) ?_ (.inr ⟨w.heap.size, 0, cells, rfl, ?_, ?_⟩) hev⟩
  · unfold maxLen
    have : len ≤ len * c.P.cellsOf e := Nat.le_mul_of_pos_right _ h0
    omega
  · intro j v hj
    refine ⟨?_, .inr rfl⟩
    rw [Nat.zero_add]
    have := World.cell?_alloc_new w cells.toArray e j
    rw [this]
    simpa using hj
  · refine rcs.later ?_ es cells k1
    exact Later.grow (below_alloc w _) (fun _ _ hd => .inl hd)
end
end Go.Abs

/-
  THE ABSTRACT LAYER, 9: '==' on values of many cells; a slice against nil. Over any program.
-/
namespace Go.Abs
open Go Go.RowKit
mutual
theorem eqE_size : ∀ (ty : ETy) (x y : AV) (r : Bool), eqE ty x y = some r → x.size = ty.size ∧ y.size = ty.size
  | .i k, x, y, r, h => by
    simp only [eqE] at h
    split at h
    · simp [AV.size, ETy.size]
    · cases h
  | .b, x, y, r, h => by
    simp only [eqE] at h
    split at h
    · simp [AV.size, ETy.size]
    · cases h
  | .s, x, y, r, h => by
    simp only [eqE] at h
    split at h
    · simp [AV.size, ETy.size]
    · cases h
  | .st l, x, y, r, h => by
    simp only [eqE] at h
    split at h
    · simp only [AV.size, ETy.size]; exact eqEs_size l _ _ r h
    · cases h
  | .ar n e, x, y, r, h => by
    simp only [eqE] at h
    split at h
    · rename_i fs gs
      split at h
      · rename_i hl
        simp only [AV.size, ETy.size]
        have : ∀ (fs gs : List AV) (r : Bool), fs.length = gs.length → (fs.zip gs).foldr (fun p acc => andO (eqE e p.1 p.2) acc) (some true) = some r → AV.sizes fs = fs.length * e.size ∧ AV.sizes gs = fs.length * e.size := by
          intro fs
          induction fs with
          | nil => intro gs r hl _; cases gs with | nil => simp [AV.sizes] | cons _ _ => simp at hl
          | cons f fs ih =>
            intro gs r hl h
            cases gs with
            | nil => simp at hl
            | cons g gs =>
              simp only [List.zip_cons_cons, List.foldr_cons] at h
              unfold andO at h
              split at h
              · rename_i a b h1 h2
                obtain ⟨k1, k2⟩ := ih gs b (by simpa using hl) h2
                obtain ⟨k3, k4⟩ := eqE_size e f g a h1
                simp only [AV.sizes, List.length_cons, k1, k2, k3, k4, Nat.add_mul, Nat.one_mul]
                omega
              · cases h
        obtain ⟨k1, k2⟩ := this fs gs r (by omega) h
        rw [k1, k2, hl.1]
        exact ⟨rfl, rfl⟩
      · cases h
    · cases h
theorem eqEs_size : ∀ (l : List ETy) (xs ys : List AV) (r : Bool), eqEs l xs ys = some r → AV.sizes xs = ETy.sizes l ∧ AV.sizes ys = ETy.sizes l
  | [], xs, ys, r, h => by
    simp only [eqEs] at h
    split at h
    · simp [AV.sizes, ETy.sizes]
    · cases h
  | t :: ts, xs, ys, r, h => by
    simp only [eqEs] at h
    split at h
    · rename_i f fs g gs
      unfold andO at h
      split at h
      · rename_i a b h1 h2
        obtain ⟨k1, k2⟩ := eqE_size t f g a h1
        obtain ⟨k3, k4⟩ := eqEs_size ts fs gs b h2
        simp only [AV.sizes, ETy.sizes, k1, k2, k3, k4]
        exact ⟨trivial, trivial⟩
      · cases h
    · cases h
end
section
variable {P : Program} {w : World} {D : Dom} {E : Env}
/-- How a value of a compared type is loaded. -/
theorem eTy_ld {d : Nat} {t : TypeId} {ty : ETy} (h : eTy P d t = some ty) (hs : ty.size = P.cellsOf t) {x y : AV} {r : Bool} (hr : eqE ty x y = some r) : ∃ s, ldK P t = some s ∧ okLd s x = true ∧ okLd s y = true := by
  have hsz := eqE_size ty x y r hr
  cases d with
  | zero => simp [eTy] at h
  | succ d =>
    simp only [eTy] at h
    split at h
    · rename_i k hu
      simp only [Option.some.injEq] at h; subst h
      simp only [eqE] at hr
      split at hr
      · exact ⟨none, by simp [ldK, hu], by simp [okLd, AV.isAgg], by simp [okLd, AV.isAgg]⟩
      · cases hr
    · rename_i hu
      simp only [Option.some.injEq] at h; subst h
      simp only [eqE] at hr
      split at hr
      · exact ⟨none, by simp [ldK, hu], by simp [okLd, AV.isAgg], by simp [okLd, AV.isAgg]⟩
      · cases hr
    · rename_i hu
      simp only [Option.some.injEq] at h; subst h
      simp only [eqE] at hr
      split at hr
      · exact ⟨none, by simp [ldK, hu], by simp [okLd, AV.isAgg], by simp [okLd, AV.isAgg]⟩
      · cases hr
    · rename_i fs hu
      split at h
      · simp only [Option.map_eq_some_iff] at h
        obtain ⟨l, _, rfl⟩ := h
        simp only [eqE] at hr
        split at hr
        · exact ⟨some (P.cellsOf t), by simp [ldK, hu], by simp [okLd, AV.isAgg, hsz.1, hs], by simp [okLd, AV.isAgg, hsz.2, hs]⟩
        · cases hr
      · cases h
    · rename_i n e hu
      split at h
      · split at h
        · simp only [Option.some.injEq] at h; subst h
          simp only [eqE] at hr
          split at hr
          · exact ⟨some (P.cellsOf t), by simp [ldK, hu], by simp [okLd, AV.isAgg, hsz.1, hs], by simp [okLd, AV.isAgg, hsz.2, hs]⟩
          · cases hr
        · cases h
      · cases h
    · cases h
theorem eqFields_ok {k : Nat} {g : Field → Option ETy} (hg : ∀ (f : Field) (ty : ETy), g f = some ty → ty.size = P.cellsOf f.type ∧ ∃ d, eTy P d f.type = some ty ∧
      ∀ (x y : AV) (u v : Value) (r : Bool), rv w D E x u → rv w D E y v → eqE ty x y = some r → (Op.equalIn k f.type u v).run P w = .ok r w) :
    ∀ (fs : List Field) (l : List ETy) (xs ys : List AV) (r : Bool) (c1 c2 d1 d2 : List Value), fs.mapM g = some l → (∀ f ∈ fs, f.name ≠ "_") → offsOk P c1.length fs = true → c1.length = d1.length →
      rcs w D E xs c2 → rcs w D E ys d2 → eqEs l xs ys = some r → (Op.eqFields k (c1 ++ c2).toArray (d1 ++ d2).toArray fs).run P w = .ok r w
  | [], l, xs, ys, r, c1, c2, d1, d2, hm, _, _, _, _, _, h => by
    simp at hm
    subst hm
    simp only [eqEs] at h
    split at h
    · simp only [Option.some.injEq] at h; subst h; simp [Op.eqFields]
    · cases h
  | f :: fs, l, xs, ys, r, c1, c2, d1, d2, hm, hn, ho, hl, hx, hy, h => by
    simp only [List.mapM_cons, Option.bind_eq_bind, Option.pure_def, Option.bind_eq_some_iff, Option.some.injEq] at hm
    obtain ⟨ty, hty, tys, htys, rfl⟩ := hm
    simp only [eqEs] at h
    split at h
    case h_2 => cases h
    rename_i x xs y ys
    unfold andO at h
    split at h
    case h_2 => cases h
    rename_i ra rb h1 h2
    simp only [Option.some.injEq] at h
    subst h
    simp only [rcs] at hx hy
    obtain ⟨e1, e2, rfl, k1, k2⟩ := hx
    obtain ⟨f1, f2, rfl, k3, k4⟩ := hy
    obtain ⟨hsz, dd, hd, heq⟩ := hg f ty hty
    obtain ⟨s, q1, q2, q3⟩ := eTy_ld hd hsz h1
    obtain ⟨u, p1, p2⟩ := run_part_known (c1 := c1) (c3 := e2) q1 q2 k1
    obtain ⟨v, p3, p4⟩ := run_part_known (c1 := d1) (c3 := f2) q1 q3 k3
    simp only [offsOk, Bool.and_eq_true, beq_iff_eq] at ho
    have hsx := eqE_size ty x y ra h1
    have hle : e1.length = P.cellsOf f.type := by rw [rc.length _ _ k1, hsx.1, hsz]
    have hlf : f1.length = P.cellsOf f.type := by rw [rc.length _ _ k3, hsx.2, hsz]
    have ih := eqFields_ok hg fs tys xs ys rb (c1 ++ e1) e2 (d1 ++ f1) f2 htys (fun g hg => hn g (by simp [hg])) (by simp only [List.length_append, hle]; exact ho.2) (by simp [hl, hle, hlf]) k2 k4 h2
    rw [List.append_assoc] at p1 p3
    rw [List.append_assoc, List.append_assoc] at ih
    rw [← ho.1] at p1
    rw [← hl, ← ho.1] at p3
    simp only [Op.eqFields, hn f (by simp), ne_eq, not_false_eq_true, if_true, Sem.run_bind, p1, Result.andThen_ok, p3, heq x y u v ra p2 p4 h1]
    cases ra
    · simp
    · simpa using ih
theorem eqItems_ok {d : Nat} {e : TypeId} {ty : ETy} {dd : Nat} (hty : eTy P dd e = some ty) (hsz : ty.size = P.cellsOf e)
    (heq : ∀ (x y : AV) (u v : Value) (r : Bool), rv w D E x u → rv w D E y v → eqE ty x y = some r → (Op.equalIn d e u v).run P w = .ok r w) :
    ∀ (m k : Nat) (xs ys : List AV) (c1 c2 d1 d2 : List Value) (r : Bool), xs.length = m → ys.length = m → c1.length = k * P.cellsOf e → d1.length = k * P.cellsOf e → rcs w D E xs c2 → rcs w D E ys d2 →
      (xs.zip ys).foldr (fun p acc => andO (eqE ty p.1 p.2) acc) (some true) = some r → (Op.eqItems d e (P.cellsOf e) (c1 ++ c2).toArray (d1 ++ d2).toArray (List.range' k m)).run P w = .ok r w
  | 0, k, xs, ys, c1, c2, d1, d2, r, hx, hy, _, _, _, _, h => by
    have e1 := List.eq_nil_of_length_eq_zero hx
    subst e1
    simp only [List.zip_nil_left, List.foldr_nil, Option.some.injEq] at h
    subst h
    simp [Op.eqItems]
  | m + 1, k, xs, ys, c1, c2, d1, d2, r, hx, hy, hc, hd, hrx, hry, h => by
    cases xs with
    | nil => simp at hx
    | cons x xs =>
    cases ys with
    | nil => simp at hy
    | cons y ys =>
    simp only [List.zip_cons_cons, List.foldr_cons] at h
    unfold andO at h
    split at h
    case h_2 => cases h
    rename_i ra rb h1 h2
    simp only [Option.some.injEq] at h
    subst h
    simp only [rcs] at hrx hry
    obtain ⟨e1, e2, rfl, k1, k2⟩ := hrx
    obtain ⟨f1, f2, rfl, k3, k4⟩ := hry
    obtain ⟨s, q1, q2, q3⟩ := eTy_ld hty hsz h1
    obtain ⟨u, p1, p2⟩ := run_part_known (c1 := c1) (c3 := e2) q1 q2 k1
    obtain ⟨v, p3, p4⟩ := run_part_known (c1 := d1) (c3 := f2) q1 q3 k3
    have hsx := eqE_size ty x y ra h1
    have hle : e1.length = P.cellsOf e := by rw [rc.length _ _ k1, hsx.1, hsz]
    have hlf : f1.length = P.cellsOf e := by rw [rc.length _ _ k3, hsx.2, hsz]
    have ih := eqItems_ok hty hsz heq m (k + 1) xs ys (c1 ++ e1) e2 (d1 ++ f1) f2 rb (by simpa using hx) (by simpa using hy) (by simp only [List.length_append, hle, hc, Nat.add_mul, Nat.one_mul]) (by simp only [List.length_append, hlf, hd, Nat.add_mul, Nat.one_mul]) k2 k4 h2
    rw [List.append_assoc] at p1 p3
    rw [List.append_assoc, List.append_assoc] at ih
    rw [hc] at p1
    rw [hd] at p3
    simp only [List.range'_succ, Op.eqItems, Sem.run_bind, p1, Result.andThen_ok, p3, heq x y u v ra p2 p4 h1]
    cases ra
    · simp
    · simpa using ih
theorem eqE_ok : ∀ (d : Nat) (t : TypeId) (ty : ETy), eTy P d t = some ty → ∀ (x y : AV) (u v : Value) (r : Bool), rv w D E x u → rv w D E y v → eqE ty x y = some r → ∀ dep, d ≤ dep → (Op.equalIn dep t u v).run P w = .ok r w
  | 0, t, ty, h, _, _, _, _, _, _, _, _, _, _ => by simp [eTy] at h
  | d + 1, t, ty, h, x, y, u, v, r, hx, hy, hr, dep, hdep => by
    obtain ⟨k, rfl⟩ : ∃ k, dep = k + 1 := ⟨dep - 1, by omega⟩
    simp only [eTy] at h
    split at h
    · rename_i kk hu
      simp only [Option.some.injEq] at h; subst h
      simp only [eqE] at hr
      split at hr
      · split at hr
        · simp only [Option.some.injEq] at hr; subst hr
          rw [(rv_int hx).1, (rv_int hy).1]
          rename_i hk
          rw [hk.1, hk.2]
          exact run_equalIn_int w k t kk kk _ _ hu
        · cases hr
      · cases hr
    · rename_i hu
      simp only [Option.some.injEq] at h; subst h
      simp only [eqE] at hr
      split at hr
      · simp only [Option.some.injEq] at hr; subst hr
        rw [rv_bool hx, rv_bool hy]
        exact run_equalIn_bool' w k t _ _ hu
      · cases hr
    · rename_i hu
      simp only [Option.some.injEq] at h; subst h
      simp only [eqE] at hr
      split at hr
      · simp only [Option.some.injEq] at hr; subst hr
        rw [(rv_str hx).1, (rv_str hy).1]
        exact run_equalIn_string w k t _ _ hu
      · cases hr
    · rename_i fs hu
      split at h
      · rename_i hc
        simp only [Option.map_eq_some_iff] at h
        obtain ⟨l, hl, rfl⟩ := h
        simp only [eqE] at hr
        split at hr
        · obtain ⟨cs, rfl, h1⟩ := rv_agg hx
          obtain ⟨ds, rfl, h2⟩ := rv_agg hy
          have hf : P.fieldsOf t = fs := by simp [Program.fieldsOf, hu]
          rw [run_equalIn_struct w k t _ _ (by rw [hf]; exact hu) hc.1, hf]
          refine eqFields_ok (g := fun f => match eTy P d f.type with | some ty => if ty.size = P.cellsOf f.type then some ty else none | none => none) (fun f ty hg => ?_) fs.toList l _ _ r [] cs [] ds hl (fun f hf => ?_) hc.2.2 rfl h1 h2 hr
          · split at hg
            · rename_i ty' hty
              split at hg
              · rename_i hs
                simp only [Option.some.injEq] at hg; subst hg
                exact ⟨hs, d, hty, fun x y u v r hx hy hr => eqE_ok d f.type _ hty x y u v r hx hy hr k (by omega)⟩
              · cases hg
            · cases hg
          · have := List.all_eq_true.1 hc.2.1 f hf
            simpa using this
        · cases hr
      · cases h
    · rename_i n e hu
      split at h
      · rename_i ty' hty
        split at h
        · rename_i hc
          simp only [Option.some.injEq] at h; subst h
          simp only [eqE] at hr
          split at hr
          · split at hr
            · rename_i hl
              obtain ⟨cs, rfl, h1⟩ := rv_agg hx
              obtain ⟨ds, rfl, h2⟩ := rv_agg hy
              obtain ⟨i, hi⟩ := Option.isSome_iff_exists.1 hc.2
              rw [run_equalIn_array w k _ _ hu hi, List.range_eq_range']
              exact eqItems_ok hty hc.1 (fun x y u v r hx hy hr => eqE_ok d e _ hty x y u v r hx hy hr k (by omega)) n 0 _ _ [] cs [] ds r hl.1 hl.2 (by simp) (by simp) h1 h2 hr
            · cases hr
          · cases hr
        · cases h
      · cases h
    · cases h
end
section
variable {c : Ctx} {A : AState} {o : Oper} {x : AV}
theorem run_eqGuard_any {P : Program} {w : World} {D : Dom} {E : Env} (op : BinOp) (t : TypeId) (x y : Operand) {a b : AV} {ty : ETy} {r : Bool} {u v : Value} (hr : eqE ty a b = some r) (hx : rv w D E a u) (hm : P.eqGuardType P.depth t = false) :
    (eqGuard op t x y u v).run P w = .ok () w := by
  have : u.oneCell' = true ∧ u ≠ .nilIface ∨ ∃ cs, u = .agg cs := by
    cases ty <;> simp only [eqE] at hr <;> split at hr <;> first
      | (cases hr; done)
      | (left; rw [(rv_int hx).1]; exact ⟨rfl, by simp⟩)
      | (left; rw [rv_bool hx]; exact ⟨rfl, by simp⟩)
      | (left; rw [(rv_str hx).1]; exact ⟨rfl, by simp⟩)
      | (right; obtain ⟨cs, h, _⟩ := rv_agg hx; exact ⟨_, h⟩)
  rcases this with ⟨h1, h2⟩ | ⟨cs, rfl⟩
  · exact run_eqGuard_plain op t x y h1 h2
  · cases op <;> cases v <;> simp [eqGuard, run_program, hm]
theorem binOp_equal {P : Program} {w : World} {D : Dom} {E : Env} {neg : Bool} {t : TypeId} {a b : AV} {ty : ETy} {r : Bool} {u v : Value} (hr : eqE ty a b = some r) (hx : rv w D E a u) (hy : rv w D E b v) {dt : Nat} (hdt : dt ≤ 10000) (hty : eTy P dt t = some ty) :
    (binOp (if neg then .neq else .eql) t u v).run P w = .ok (.bool (if neg then !r else r)) w := by
  have he := eqE_ok (w := w) (D := D) (E := E) dt t ty hty a b u v r hx hy hr 10000 hdt
  cases ty <;> simp only [eqE] at hr <;> split at hr <;> first | (cases hr; done) | skip
  · rw [(rv_int hx).1, (rv_int hy).1] at *
    split at hr
    · rename_i hk
      simp only [Option.some.injEq] at hr
      subst hr
      rw [hk.1, hk.2]
      cases neg <;> simp [binOp, Op.intCmp, bne]
    · cases hr
  · have e1 := rv_bool hx
    have e2 := rv_bool hy
    subst e1 e2
    cases neg <;> simp only [binOp, if_true, Bool.false_eq_true, if_false] <;> simp [Op.equal, Op.maxDepth, he]
  · rw [(rv_str hx).1, (rv_str hy).1] at *
    simp only [Option.some.injEq] at hr
    subst hr
    cases neg <;> simp [binOp, Op.stringOp]
  · obtain ⟨cs, rfl, _⟩ := rv_agg hx
    obtain ⟨ds, rfl, _⟩ := rv_agg hy
    cases neg <;> simp only [if_true, Bool.false_eq_true, if_false]
    · rw [run_eql_struct, he]; rfl
    · rw [run_neq_struct, he]; rfl
  · obtain ⟨cs, rfl, _⟩ := rv_agg hx
    obtain ⟨ds, rfl, _⟩ := rv_agg hy
    cases neg <;> simp only [if_true, Bool.false_eq_true, if_false]
    · rw [run_eql_struct, he]; rfl
    · rw [run_neq_struct, he]; rfl
theorem gives_eqv {neg : Bool} {t yt : TypeId} {y z : Operand} {y' z' : AOpd} {ty : ETy} {r : Bool} (ho : o.op = .binOp (if neg then .neq else .eql) t y z yt) (hy : cOpd c.P 0 y = some y') (hz : cOpd c.P 0 z = some z') (hg : c.P.eqGuardType c.P.depth t = false)
    (hty : eTy c.P 12 t = some ty) (h : eqE ty (ev A y') (ev A z') = some r) : Gives c A o (.bool (if neg then !r else r)) :=
  .same fun a w D E hs => by
    have h1 := ev_ok hs hy
    have h2 := ev_ok hs hz
    refine ⟨_, ?_, mk_bool _⟩
    simp only [execOp, ho, Sem.run_bind, run_eqGuard_any _ t y z h h1 hg, Result.andThen_ok, binOp_equal h h1 h2 (dt := 12) (by omega) hty]
    rfl
theorem gives_nilS {neg : Bool} {t yt e : TypeId} {y z : Operand} {y' : AOpd} {sz : Nat} {r : Bool} (ho : o.op = .binOp (if neg then .neq else .eql) t y z yt) (hu : c.P.underlying t = some (.slice e)) (hy : cOpd c.P 0 y = some y') (hz : cOpd c.P 0 z = some (.c (.nils sz)))
    (h : (∃ s, ev A y' = .nils s ∧ r = true) ∨ (∃ s es, ev A y' = .slice s es ∧ es ≠ [] ∧ r = false) ∨ (∃ n p s lo k, ev A y' = .view n p s lo k ∧ r = false)) : Gives c A o (.bool (if neg then !r else r)) :=
  .same fun a w D E hs => by
    have h1 := ev_ok hs hy
    have h2 : rv w D E (.nils sz) (a.eval z) := ev_ok hs hz
    have hv : a.eval z = .slice none 0 0 := by
      obtain ⟨cs, q1, q2⟩ := h2
      simp only [rc] at q2
      simpa [isPack, AV.isAgg, q2] using q1.symm
    have hu' : (∃ ad n cp, a.eval y = .slice ad n cp ∧ r = ad.isNone) := by
      rcases h with ⟨s, h, rfl⟩ | ⟨s, es, h, hne, rfl⟩ | ⟨n, p, s, lo, k, h, rfl⟩
      · rw [h] at h1
        obtain ⟨cs, q1, q2⟩ := h1
        simp only [rc] at q2
        exact ⟨none, 0, 0, by simpa [isPack, AV.isAgg, q2] using q1.symm, rfl⟩
      · rw [h] at h1
        obtain ⟨ad, cap, e1, _, _, e4, _⟩ := rv_slice h1
        rcases e4 with e4 | ⟨b, off, cs, rfl, _, _⟩
        · exact absurd e4 hne
        · exact ⟨_, _, _, e1, rfl⟩
      · rw [h] at h1
        obtain ⟨cs, q1, q2⟩ := h1
        simp only [rc] at q2
        obtain ⟨b, sh, off, l, _, _, _, q2, _⟩ := q2
        exact ⟨_, _, _, by simpa [isPack, AV.isAgg, q2] using q1.symm, rfl⟩
    obtain ⟨ad, n, cp, hyv, rfl⟩ := hu'
    have he : ∀ d, (Op.equalIn (d + 1) t (.slice ad n cp) (.slice none 0 0)).run c.P w = .ok ad.isNone w := fun d => by
      cases ad <;> simp [Op.equalIn, run_underlying hu]
    refine ⟨.bool (if neg then !ad.isNone else ad.isNone), ?_, mk_bool _⟩
    cases neg <;> simp only [execOp, ho, hyv, hv, if_true, Bool.false_eq_true, if_false, Sem.run_bind, eqGuard] <;> simp [binOp, Op.equal, Op.maxDepth, he]
end
end Go.Abs

/-
  THE ABSTRACT LAYER, 10: operations that make or write memory. Over any program.
-/
namespace Go.Abs
open Go Go.RowKit
/-- In every frame and world that fit 'A', the operation goes through, and what is then there fits 'B'. -/
def Does (c : Ctx) (A : AState) (o : Oper) (B : AState) : Prop :=
  ∀ a w D E, SimW c A a w D E → ∃ w', ((∃ v, (execOp a.eval o).run c.P w = .ok (.value v) w' ∧ Sim c B (a.put o.dst v) w') ∨ ((execOp a.eval o).run c.P w = .ok .skip w' ∧ Sim c B (a.put o.dst undef) w'))
section
variable {c : Ctx} {A : AState} {o : Oper} {x : AV}
theorem Gives.does (h : Gives c A o x) (hd : ∀ k, o.dst = some k → k < c.n) : Does c A o (A.putO o.dst x) := by
  intro a w D E hs
  obtain ⟨v, w', D', h1, h2, h3⟩ := h a w D E hs
  exact ⟨w', .inl ⟨v, h1, D', E, h2.putO hd h3⟩⟩
theorem does_alloc {t : TypeId} {z : AV} {d : Nat} (ho : o.op = .alloc t) (hz : zeroAV c.P t = some z) (hd : o.dst = some d) (hn : d < c.n) (hf : A.o d = none) : Does c A o ((A.setO d (.box z)).put d (.ptr d [])) := by
  intro a w D E hs
  obtain ⟨i, zv, hi, hzv, hzr⟩ := zeroAV_ok hz
  have h1 := hs.newBox (T := t) (.inl hn) hf (hzr w D E)
  have h2 := h1.put (x := .ptr d []) (v := .pointer (some ⟨w.heap.size, 0, none⟩)) hn ⟨_, by simp [isPack, AV.isAgg]; rfl, by
    simp only [rc, if_true]
    exact ⟨w.heap.size, z.sh, 0, rfl, by cases z.sh <;> simp [Sh.off], rfl⟩⟩
  exact ⟨w.alloc (.cells zv.cells t), .inl ⟨.pointer (some ⟨w.heap.size, 0, none⟩), by simp [execOp, ho, Instr.alloc, zeroValue, typeInfo, hi, hzv, newVar, newRow], D, _, by rw [hd]; exact h2⟩⟩
theorem does_box {t : TypeId} {y : Operand} {y' : AOpd} {d : Nat} (ho : o.op = .box t y) (hy : cOpd c.P t y = some y') (hv : (ev A y').isVal = true) (hd : o.dst = some d) (hn : d < c.n) (hf : A.o d = none) :
    Does c A o ((A.setO d (.box (ev A y'))).put d (.ptr d [])) := by
  intro a w D E hs
  obtain ⟨cs, k1, k2⟩ : ∃ cs, isPack (ev A y') (a.eval y) cs ∧ rc w D E (ev A y') cs := by
    have h := ev_ok hs hy
    generalize ev A y' = z at *
    cases z <;> simp [AV.isVal] at hv <;> exact h
  have hc := k1.cells k2
  rw [← hc] at k2
  have h1 := hs.newBox (T := t) (.inl hn) hf k2
  have h2 := h1.put (x := .ptr d []) (v := .pointer (some ⟨w.heap.size, 0, none⟩)) hn ⟨_, by simp [isPack, AV.isAgg]; rfl, by
    simp only [rc, if_true]
    exact ⟨w.heap.size, (ev A y').sh, 0, rfl, by cases (ev A y').sh <;> simp [Sh.off], rfl⟩⟩
  exact ⟨w.alloc (.cells (a.eval y).cells t), .inl ⟨.pointer (some ⟨w.heap.size, 0, none⟩), by simp [execOp, ho, Instr.box, newVar, newRow], D, _, by rw [hd]; exact h2⟩⟩
theorem does_st {t : TypeId} {y z : Operand} {y' z' : AOpd} {s : Option Nat} {n : Nat} {p : List Nat} {b old : AV} (ho : o.op = .store t y z) (hk : ldK c.P t = some s) (hk1 : s.isSome = true ∨ c.P.cellsOf t = 1) (hy : cOpd c.P 0 y = some y') (hz : cOpd c.P t z = some z')
    (hp : ev A y' = .ptr n p) (hb : A.o n = some (.box b)) (hat : b.at p = some old) (hv : (ev A z').isVal = true) (hok : okLd s (ev A z') = true) (hsh : (ev A z').sh = old.sh) (hd : o.dst = none) :
    Does c A o (A.setO n (.box (b.setAt p (ev A z')))) := by
  intro a w D E hs
  have h1 := ev_ok hs hy
  rw [hp] at h1
  obtain ⟨bb, sh, off, h2, h3, h4⟩ := rv_ptr h1
  obtain ⟨b', cs, T, k1, k2, k3, k4, k5⟩ := hs.box hb
  rw [k1] at h2
  simp only [Option.some.injEq, Ent.bx.injEq] at h2
  obtain ⟨rfl, rfl⟩ := h2
  obtain ⟨ds, q1, q2⟩ : ∃ ds, isPack (ev A z') (a.eval z) ds ∧ rc w D E (ev A z') ds := by
    have h := ev_ok hs hz
    generalize ev A z' = zz at *
    cases zz <;> simp [AV.isVal] at hv <;> exact h
  have hc := q1.cells q2
  obtain ⟨off', p1, p2, p3, p4⟩ := rc_setAt p b old _ _ ds k4 hat q2 hsh
  rw [h3, Option.some.injEq] at p1
  subst p1
  have hl := rc.length _ _ q2
  obtain ⟨i, hi⟩ := ldK_info hk
  have hsz : ds.length = c.P.cellsOf t := by
    cases s with
    | none =>
      simp only [okLd, Bool.not_eq_true'] at hok
      have : (ev A z').size = 1 := by generalize ev A z' = zz at *; cases zz <;> simp_all [AV.isAgg, AV.size]
      rw [hl, this]
      rcases hk1 with h | h
      · cases h
      · exact h.symm
    | some m =>
      simp only [okLd, Bool.and_eq_true, beq_iff_eq] at hok
      rw [hl, hok.2, ldK_some hk]
  have hcs : (a.eval z).cells.size = ds.length := by rw [← hc, Array.length_toList]
  have hrun := run_storeCells_at c.P b' off T ds 0 cs w k3 (by rw [Array.length_toList] at p2; omega) (rc.oneCell _ _ q2)
  simp only [Nat.add_zero] at hrun
  have hs2 := hs.setBox (y := b.setAt p (ev A z')) (cs' := (cs.toList.take off ++ ds ++ cs.toList.drop (off + ds.length)).toArray) hb k1 p4 (by simpa using p3)
  refine ⟨w.setRow b' (cs.toList.take off ++ ds ++ cs.toList.drop (off + ds.length)).toArray, .inr ⟨?_, D, E, ?_⟩⟩
  · have e : (a.eval z).cells.toList = ds := hc
    have hg : ¬ (a.eval z).cells.size ≠ c.P.cellsOf t := by rw [hcs, hsz]; simp
    simp only [execOp, ho, h4, Instr.storeAt, Instr.sureAddr, storeVar, Sem.run_bind, Sem.run_pure, Result.andThen_ok, run_sizeOf' hi, Sem.run_ite, if_neg hg, e, hrun]
  · rw [hd]
    exact hs2
end
end Go.Abs

/-
  THE ABSTRACT LAYER, 10b: 'append' to a slice that only this frame appends to. Over any program.
-/
namespace Go.Abs
open Go Go.RowKit
section
variable {c : Ctx} {A : AState} {a : Act} {w : World} {D : Dom} {E : Env}
/-- The row of a slice goes on in a new block. -/
theorem SimW.freshRow (h : SimW c A a w D E) {n : Nat} {T : TypeId} {sz cap : Nat} {es ys : List AV} {pre news rest : List Value} {cs : Array Value} {blk : Option (Nat × Nat)} (hn : A.o n = some (.row T sz es)) (hE : E n = some (.rw blk es.length)) (hes : rcs w D E es pre)
    (hys : rcs w D E ys news) (hysz : ∀ e ∈ ys, e.size = sz) (hne : ys ≠ []) (hcs : cs.toList = (pre ++ news) ++ rest) (hsize : cs.size = cap * sz) (hlen : es.length + ys.length ≤ cap) (hcap : cap ≤ maxLen) :
    SimW c (A.setO n (.row T sz (es ++ ys))) a (w.drew.alloc (.cells cs T)) D (fun m => if m = n then some (.rw (some (w.heap.size, cap)) (es.length + ys.length)) else E m) := by
  have hlast : 0 < ys.length := List.length_pos_iff.2 hne
  have hheap : ∀ b, b < w.heap.size → (w.drew.alloc (.cells cs T)).heap[b]? = w.heap[b]? := fun b hb => Below.heap_alloc w.drew _ b hb
  have hl : Later w D E (w.drew.alloc (.cells cs T)) D (fun m => if m = n then some (.rw (some (w.heap.size, cap)) (es.length + ys.length)) else E m) := by
    refine ⟨fun _ _ h => h, fun b o v _ hv => ?_, fun m b sh he => ?_, fun m blk' l he => ?_⟩
    · rw [World.cell?_of_block (hheap b (World.block_lt_of_cell? w _ hv))]; exact hv
    · have : m ≠ n := fun e => by rw [e, hE] at he; cases he
      simp only [if_neg this]; exact he
    · by_cases hm : m = n
      · subst hm
        rw [hE] at he
        simp only [Option.some.injEq, Ent.rw.injEq] at he
        exact ⟨_, _, if_pos rfl, by omega, fun e => by omega⟩
      · exact ⟨blk', l, by simp only [if_neg hm]; exact he, Nat.le_refl _, fun _ => rfl⟩
  have hown := h.obj n
  rw [hn] at hown
  obtain ⟨blk1, hb1, hb2, _⟩ := hown
  refine ⟨h.sz, h.defs.mono fun B _ hB => (hheap B (Array.getElem?_eq_some_iff.1 hB).1).trans hB, fun t => rv.later hl (h.tm t), h.unch.trans ⟨rfl, rfl, rfl, by simp, fun k hk => hheap k (h.old hk)⟩, h.dom, fun b o hd' => by have := h.live b o hd'; simp; omega, fun m => ?_, ?_, fun m e hm hfx => ?_, h.nam, h.up, h.yok⟩
  · simp only [AState.setO]
    by_cases hm : m = n
    · subst hm
      simp only [if_true, objOk]
      refine ⟨some (w.heap.size, cap), by simp, fun e he => ?_, ?_⟩
      · rcases List.mem_append.1 he with he | he
        · exact hb2 e he
        · exact hysz e he
      · refine ⟨cs, pre ++ news, rest, .inl h.unch.size, heap_alloc_new w.drew _, hcs, ?_, hsize, by simpa using hlen, hcap, fun o ho => absurd (h.live _ o ho) (Nat.lt_irrefl _)⟩
        exact rcs.later hl _ _ (rcs_append _ _ _ _ hes hys)
    · simp only [if_neg hm]
      exact (h.obj m).later hl (by simp only [if_neg hm]) fun e b he hb => ⟨hheap b (h.blk_lt he hb), fun _ ho => ho⟩
  · intro m m' e e' b h1 h2 h3 h4
    by_cases hm : m = n <;> by_cases hm' : m' = n
    · rw [hm, hm']
    · simp only [if_pos hm, Option.some.injEq] at h1
      simp only [if_neg hm'] at h2
      subst h1
      simp only [Ent.blk, Option.some.injEq] at h3
      have := h.blk_lt h2 h4
      omega
    · simp only [if_neg hm] at h1
      simp only [if_pos hm', Option.some.injEq] at h2
      subst h2
      simp only [Ent.blk, Option.some.injEq] at h4
      have := h.blk_lt h1 h3
      omega
    · simp only [if_neg hm] at h1
      simp only [if_neg hm'] at h2
      exact h.sep m m' e e' b h1 h2 h3 h4
  · have hmn : m ≠ n := fun e => by
      subst e
      rcases h.hist _ _ hm hfx with k | k <;> rw [hE] at k <;> cases k <;> cases hfx
    simp only [if_neg hmn]
    exact h.hist _ _ hm hfx
/-- The row of a slice is written on, in its own block. -/
theorem SimW.onRow (h : SimW c A a w D E) {n : Nat} {T : TypeId} {sz b cap : Nat} {es ys : List AV} {pre news rest : List Value} {cs : Array Value} (hn : A.o n = some (.row T sz es)) (hE : E n = some (.rw (some (b, cap)) es.length)) (hb : w.heap[b]? = some (.cells cs T (0, 0)))
    (hcs : cs.toList = pre ++ rest) (hes : rcs w D E es pre) (hys : rcs w D E ys news) (hysz : ∀ e ∈ ys, e.size = sz) (hne : ys ≠ []) (hsize : cs.size = cap * sz) (hlen : es.length + ys.length ≤ cap) (hcap : cap ≤ maxLen) (hD : ∀ o, D b o → o < pre.length) (hbase : c.Mine b) :
    SimW c (A.setO n (.row T sz (es ++ ys))) a (w.setRow b (pre ++ news ++ rest.drop news.length).toArray) D (fun m => if m = n then some (.rw (some (b, cap)) (es.length + ys.length)) else E m) := by
  have hlast : 0 < ys.length := List.length_pos_iff.2 hne
  have hown := h.obj n
  rw [hn] at hown
  obtain ⟨blk1, hb1, hb2, _⟩ := hown
  have hnl : news.length = ys.length * sz := by rw [rcs.length _ _ hys, AV.sizes_const _ hysz]
  have hpl : pre.length = es.length * sz := by rw [rcs.length _ _ hes, AV.sizes_const _ hb2]
  have hl : Later w D E (w.setRow b (pre ++ news ++ rest.drop news.length).toArray) D (fun m => if m = n then some (.rw (some (b, cap)) (es.length + ys.length)) else E m) := by
    refine ⟨fun _ _ h => h, fun b1 o v hd hv => ?_, fun m b sh he => ?_, fun m blk' l he => ?_⟩
    · by_cases hbb : b1 = b
      · subst hbb
        have ho := hD o hd
        have h1 := setRow_heap w b1 cs (pre ++ news ++ rest.drop news.length).toArray T _ hb
        rw [cell_of_row _ b1 o _ T (0, 0) h1]
        rw [cell_of_row _ b1 o _ T (0, 0) hb] at hv
        have e1 : cs[o]? = pre[o]? := by rw [← Array.getElem?_toList, hcs, List.getElem?_append_left ho]
        rw [← hv, e1]
        simp only [List.getElem?_toArray, List.append_assoc]
        rw [List.getElem?_append_left ho]
      · rw [cell?_setRow_other _ _ _ _ hbb]; exact hv
    · have : m ≠ n := fun e => by rw [e, hE] at he; cases he
      simp only [if_neg this]; exact he
    · by_cases hm : m = n
      · subst hm
        rw [hE] at he
        simp only [Option.some.injEq, Ent.rw.injEq] at he
        exact ⟨_, _, if_pos rfl, by omega, fun e => by omega⟩
      · exact ⟨blk', l, by simp only [if_neg hm]; exact he, Nat.le_refl _, fun _ => rfl⟩
  refine ⟨h.sz, h.defs.mono fun B _ hB => (setRow_other w b B _ (fun e => by rw [e, hb] at hB; cases hB)).trans hB, fun t => rv.later hl (h.tm t), kept_setRow h.unch hbase _, h.dom, fun b1 o hd => by have := h.live b1 o hd; simpa [World.setRow] using this, fun m => ?_, ?_, fun m e hm hfx => ?_, h.nam, h.up, h.yok⟩
  · simp only [AState.setO]
    by_cases hm : m = n
    · subst hm
      simp only [if_true, objOk]
      refine ⟨some (b, cap), by simp, fun e he => ?_, ?_⟩
      · rcases List.mem_append.1 he with he | he
        · exact hb2 e he
        · exact hysz e he
      · refine ⟨_, pre ++ news, rest.drop news.length, hbase, setRow_heap w b cs _ T _ hb, by simp, rcs.later hl _ _ (rcs_append _ _ _ _ hes hys), ?_, by simpa using hlen, hcap, fun o ho => ?_⟩
        · have e1 : cs.size = pre.length + rest.length := by rw [← Array.length_toList, hcs, List.length_append]
          have e2 : news.length + pre.length ≤ cs.size := by
            rw [hsize, hnl, hpl, ← Nat.add_mul]; exact Nat.mul_le_mul_right _ (by omega)
          simp only [List.size_toArray, List.length_append, List.length_drop]
          omega
        · have := hD o ho
          rw [List.length_append]; omega
    · simp only [if_neg hm]
      refine (h.obj m).later hl (by simp only [if_neg hm]) fun e b1 he hb' => ⟨setRow_other w b b1 _ (fun e1 => hm (h.sep m n e _ b he hE (by rw [hb', e1]) rfl)), fun _ ho => ho⟩
  · intro m m' e e' b' h1 h2 h3 h4
    by_cases hm : m = n <;> by_cases hm' : m' = n
    · rw [hm, hm']
    · simp only [if_pos hm, Option.some.injEq] at h1
      simp only [if_neg hm'] at h2
      subst h1
      exact absurd (h.sep m' n e' _ b' h2 hE h4 h3) hm'
    · simp only [if_neg hm] at h1
      simp only [if_pos hm', Option.some.injEq] at h2
      subst h2
      exact absurd (h.sep m n e _ b' h1 hE h3 h4) hm
    · simp only [if_neg hm] at h1
      simp only [if_neg hm'] at h2
      exact h.sep m m' e e' b' h1 h2 h3 h4
  · have hmn : m ≠ n := fun e => by
      subst e
      rcases h.hist _ _ hm hfx with k | k <;> rw [hE] at k <;> cases k <;> cases hfx
    simp only [if_neg hmn]
    exact h.hist _ _ hm hfx
end
section
variable {c : Ctx} {A : AState} {o : Oper}
theorem does_app {t e : TypeId} {s x : Operand} {s' x' : AOpd} {n k sz : Nat} {es ys : List AV} {z : AV} (ho : o.op = .call { callee := .builtin .append, args := #[s, x], argTypes := #[t, t] }) (ht : c.P.underlying t = some (.slice e)) (hs' : cOpd c.P t s = some s') (hx' : cOpd c.P t x = some x')
    (hz : zeroAV c.P e = some z) (hzs : z.size = c.P.cellsOf e) (hpos : 0 < c.P.cellsOf e) (hs : ev A s' = .own n k) (hn : A.o n = some (.row e (c.P.cellsOf e) es)) (hk : k = es.length) (hx : ev A x' = .slice sz ys) (hsz : sz = c.P.cellsOf e) (hne : ys ≠ [])
    (h63 : es.length + ys.length ≤ maxLen) (hby : (es.length + ys.length) * c.P.bytesOf e ≤ 140737488355328) (hd : ∀ k, o.dst = some k → k < c.n) :
    Does c A o ((A.setO n (.row e (c.P.cellsOf e) (es ++ ys))).putO o.dst (.own n (es.length + ys.length))) := by
  intro a w D E hsim
  obtain ⟨i, zv, hi, hzv, hzr⟩ := zeroAV_ok hz
  have hci : c.P.cellsOf e = i.size := by simp [Program.cellsOf, hi]
  have hbi : c.P.bytesOf e = i.bytes := by simp [Program.bytesOf, hi]
  have hzc : zv.cells.size = i.size := by
    have := rc.length _ _ (hzr w D E)
    rw [Array.length_toList] at this
    rw [this, hzs, hci]
  subst hk
  have v1 := ev_ok hsim hs'
  rw [hs] at v1
  have v2 := ev_ok hsim hx'
  rw [hx] at v2
  obtain ⟨ad, cp, hxv, hc1, hc2, hc3, hc4⟩ := rv_slice v2
  obtain ⟨b2, off2, news, rfl, hr2, hys⟩ := hc3.resolve_left hne
  have hobj := hsim.obj n
  rw [hn] at hobj
  obtain ⟨blk, hE, hesz, hblk⟩ := hobj
  have hnl : news.length = ys.length * i.size := by rw [rcs.length _ _ hys, AV.sizes_const _ hc4, hsz, hci]
  have hysz : ∀ y ∈ ys, y.size = c.P.cellsOf e := fun y hy => by rw [hc4 y hy, hsz]
  have hnews : ∀ j v, news[j]? = some v → w.cell? ((⟨b2, off2, none⟩ : Addr).add j) = some v := fun j v hj => by
    rw [Addr.add_lit]; exact (hr2 j v hj).1
  have h1 := rcs.oneCell _ _ hys
  have hsv : match blk with | none => a.eval s = .slice none 0 0 | some (b, cap) => a.eval s = .slice (some ⟨b, 0, none⟩) es.length cap := by
    obtain ⟨cs, q1, q2⟩ := v1
    simp only [rc] at q2
    obtain ⟨blk', l, q3, q4, q5, q6⟩ := q2
    rw [hE] at q3
    simp only [Option.some.injEq, Ent.rw.injEq] at q3
    obtain ⟨rfl, rfl⟩ := q3
    have q7 := q6 rfl
    simp only [isPack, AV.isAgg] at q1
    cases blk with
    | none => simp only at q7 ⊢; rw [q7] at q1; simpa using q1.symm
    | some bc => simp only at q7 ⊢; rw [q7] at q1; simpa using q1.symm
  have hl0 : 0 < ys.length := List.length_pos_iff.2 hne
  have h63' := h63
  simp only [maxLen] at h63'
  have run : ∀ v' w', (Builtin.append_ #[t, t] o.type #[a.eval s, .slice (some ⟨b2, off2, none⟩) ys.length cp]).run c.P w = .ok v' w' → (execOp a.eval o).run c.P w = .ok (.value v') w' := by
    intro v' w' hr
    unfold execOp
    simp only [ho, resolve, invoke, builtin, Sem.run_bind, Sem.run_pure, Result.andThen_ok, List.map_toArray, List.map_cons, List.map_nil, hxv, hr]
  have put : ∀ (w' : World) (b cap : Nat) (v' : Value), v' = .slice (some ⟨b, 0, none⟩) (es.length + ys.length) cap → SimW c (A.setO n (.row e (c.P.cellsOf e) (es ++ ys))) a w' D (fun m => if m = n then some (.rw (some (b, cap)) (es.length + ys.length)) else E m) →
      Sim c ((A.setO n (.row e (c.P.cellsOf e) (es ++ ys))).putO o.dst (.own n (es.length + ys.length))) (a.put o.dst v') w' := by
    rintro w' b cap v' rfl hs2
    refine ⟨D, _, hs2.putO hd ⟨_, by simp [isPack, AV.isAgg]; rfl, ?_⟩⟩
    simp only [rc, if_true]
    exact ⟨some (b, cap), es.length + ys.length, rfl, Nat.le_refl _, ⟨_, _, _, rfl⟩, fun _ => rfl⟩
  cases blk with
  | none =>
    simp only at hblk hsv
    subst hblk
    have hr := run_append_nil (P := c.P) w t o.type e i zv ht hi hzv ⟨b2, off2, none⟩ ys.length cp news hnl hnews hl0 (by simp at h63'; omega) (by rw [hbi] at hby; simp at hby; omega)
    rw [← hsv] at hr
    have hge := grownCap_ge w ys.length 0 e
    refine ⟨_, .inl ⟨_, run _ _ hr, put _ w.heap.size (grownCap w ys.length 0 e) _ (by simp) ?_⟩⟩
    refine hsim.freshRow (pre := []) (news := news) (rest := (Builtin.zeroCells zv.cells (grownCap w ys.length 0 e - ys.length)).toList) hn hE (by simp [rcs]) hys hysz hne (by simp) ?_ (by simpa using hge) (grownCap_le_maxLen w ys.length 0 e (by simpa using h63))
    simp only [Array.size_append, List.size_toArray, size_zeroCells, hzc, hnl, hci, ← Nat.add_mul]
    congr 1
    omega
  | some bc =>
    obtain ⟨b, cap⟩ := bc
    simp only at hblk hsv
    obtain ⟨cs, pre, rest, k1, k2, k3, k4, k5, k6, k7, k8⟩ := hblk
    have hpl : pre.length = es.length * i.size := by rw [rcs.length _ _ k4, AV.sizes_const _ hesz, hci]
    by_cases hroom : es.length + ys.length ≤ cap
    · have hfit : es.length * i.size + news.length ≤ cs.size := by rw [hnl, k5, hci, ← Nat.add_mul]; exact Nat.mul_le_mul_right _ hroom
      have hr := run_append_room (P := c.P) w t o.type e i ht hi b es.length cap cs k2 ⟨b2, off2, none⟩ ys.length cp news hnl hnews h1 hroom hfit
      rw [← hsv] at hr
      refine ⟨_, .inl ⟨_, run _ _ hr, put _ b cap _ rfl ?_⟩⟩
      have e1 : cs.toList.take (es.length * i.size) = pre := by rw [k3, ← hpl]; exact List.take_left
      have e2 : cs.toList.drop (es.length * i.size + news.length) = rest.drop news.length := by rw [k3, ← hpl, ← List.drop_drop, List.drop_left]
      rw [e1, e2]
      exact hsim.onRow hn hE k2 k3 k4 hys hysz hne k5 hroom k7 k8 k1
    · have holds : ∀ j v, pre[j]? = some v → w.cell? ((⟨b, 0, none⟩ : Addr).add j) = some v := fun j v hj => by
        rw [Addr.add_lit, Nat.zero_add, cell_of_row w b j cs e (0, 0) k2, ← Array.getElem?_toList, k3]
        have : j < pre.length := (List.getElem?_eq_some_iff.1 hj).1
        rw [List.getElem?_append_left this]
        exact hj
      have hr := run_append_grow (P := c.P) w t o.type e i zv ht hi hzv ⟨b, 0, none⟩ es.length cap pre hpl holds ⟨b2, off2, none⟩ ys.length cp news hnl hnews (by omega) (by omega) (growslice_fits (by omega) (by rw [← hbi]; exact hby))
      rw [← hsv] at hr
      have hge := grownCap_ge w (es.length + ys.length) cap e
      refine ⟨_, .inl ⟨_, run _ _ hr, put _ w.heap.size (grownCap w (es.length + ys.length) cap e) _ rfl ?_⟩⟩
      refine hsim.freshRow (pre := pre) (news := news) (rest := (Builtin.zeroCells zv.cells (grownCap w (es.length + ys.length) cap e - (es.length + ys.length))).toList) hn hE k4 hys hysz hne (by simp) ?_ hge (grownCap_le_maxLen w _ cap e h63)
      simp only [Array.size_append, List.size_toArray, size_zeroCells, hzc, hnl, hpl, hci, ← Nat.add_mul]
      congr 1
      omega
end
end Go.Abs

/-
  THE ABSTRACT LAYER, 10c: objects handed over to a call: names, renamed; what the caller's frame and memory fit when they come back. Over any program.
-/
namespace Go.Abs
open Go Go.RowKit
/-! ### names that a value bears -/
mutual
def AV.only (p : Nat → Bool) : AV → Bool
  | .agg fs | .tuple fs => AV.onlys p fs
  | .slice _ es => AV.onlys p es
  | .ref x => x.only p
  | .func _ caps => AV.onlys p caps
  | .iface _ v => v.only p
  | .ptr n _ | .own n _ | .view n _ _ _ _ => p n
  | _ => true
def AV.onlys (p : Nat → Bool) : List AV → Bool
  | [] => true
  | x :: xs => x.only p && AV.onlys p xs
end
mutual
theorem only_closed (p : Nat → Bool) : ∀ x : AV, x.closed = true → x.only p = true
  | .agg fs, h => by simp only [AV.closed, AV.only] at *; exact onlys_closed p fs h
  | .slice _ es, h => by simp only [AV.closed, AV.only] at *; exact onlys_closed p es h
  | .ref x, h => by simp only [AV.closed, AV.only] at *; exact only_closed p x h
  | .func _ caps, h => by simp only [AV.closed, AV.only] at *; exact onlys_closed p caps h
  | .iface _ v, h => by simp only [AV.closed, AV.only] at *; exact only_closed p v h
  | .bool _, _ | .int _ _, _ | .str _, _ | .nilp, _ | .nilf, _ | .nili, _ | .raw _, _ | .nils _, _ | .c0 _, _ => by simp [AV.only]
  | .ptr _ _, h | .own _ _, h | .view _ _ _ _ _, h | .undef, h | .top, h | .tuple _, h => by simp [AV.closed] at h
theorem onlys_closed (p : Nat → Bool) : ∀ xs : List AV, AV.closeds xs = true → AV.onlys p xs = true
  | [], _ => rfl
  | x :: xs, h => by
    simp only [AV.closeds, AV.onlys, Bool.and_eq_true] at *
    exact ⟨only_closed p x h.1, onlys_closed p xs h.2⟩
end
mutual
theorem rc.restrict {w : World} {D : Dom} {E E' : Env} {p : Nat → Bool} (hE : ∀ n, p n = true → E' n = E n) : ∀ (x : AV) (cs : List Value), x.only p = true → rc w D E x cs → rc w D E' x cs
  | .agg fs, cs, ho, hr => by simp only [rc, AV.only] at *; exact rcs.restrict hE fs cs ho hr
  | .bool b, cs, _, hr => by simpa only [rc] using hr
  | .int k n, cs, _, hr => by simpa only [rc] using hr
  | .str s, cs, _, hr => by simpa only [rc] using hr
  | .nilp, cs, _, hr => by simpa only [rc] using hr
  | .nilf, cs, _, hr => by simpa only [rc] using hr
  | .nili, cs, _, hr => by simpa only [rc] using hr
  | .raw _, cs, _, hr => by simpa only [rc] using hr
  | .nils _, cs, _, hr => by simpa only [rc] using hr
  | .c0 _, cs, _, hr => by simpa only [rc] using hr
  | .slice sz es, cs, ho, hr => by
    simp only [rc, AV.only] at *
    obtain ⟨a, cap, h1, h2, h3, h4, h5⟩ := hr
    refine ⟨a, cap, h1, h2, h3, ?_, h5⟩
    rcases h4 with h4 | ⟨b, off, cs', h6, h7, h8⟩
    · exact .inl h4
    · exact .inr ⟨b, off, cs', h6, h7, rcs.restrict hE es cs' ho h8⟩
  | .ref x, cs, ho, hr => by
    simp only [rc, AV.only] at *
    obtain ⟨b, off, cs', h1, h2, h3⟩ := hr
    exact ⟨b, off, cs', h1, h2, rc.restrict hE x cs' ho h3⟩
  | .func f caps, cs, ho, hr => by
    simp only [rc, AV.only] at *
    obtain ⟨vs, h1, h2⟩ := hr
    exact ⟨vs, h1, rvs.restrict hE caps vs ho h2⟩
  | .iface t v, cs, ho, hr => by
    simp only [rc, AV.only] at *
    obtain ⟨u, cs', h1, h2, h3⟩ := hr
    exact ⟨u, cs', h1, h2, rc.restrict hE v cs' ho h3⟩
  | .ptr n p, cs, ho, hr => by
    simp only [rc, AV.only] at *
    obtain ⟨b, sh, off, h1, h2⟩ := hr
    exact ⟨b, sh, off, (hE n ho).trans h1, h2⟩
  | .own n k, cs, ho, hr => by
    simp only [rc, AV.only] at *
    obtain ⟨blk, l, h1, h2⟩ := hr
    exact ⟨blk, l, (hE n ho).trans h1, h2⟩
  | .view n p _ _ _, cs, ho, hr => by
    simp only [rc, AV.only] at *
    obtain ⟨b, sh, off, l, h1, h2⟩ := hr
    exact ⟨b, sh, off, l, (hE n ho).trans h1, h2⟩
  | .undef, _, _, hr => by simp only [rc] at hr
  | .top, _, _, hr => by simp only [rc] at hr
  | .tuple _, _, _, hr => by simp only [rc] at hr
theorem rcs.restrict {w : World} {D : Dom} {E E' : Env} {p : Nat → Bool} (hE : ∀ n, p n = true → E' n = E n) : ∀ (xs : List AV) (cs : List Value), AV.onlys p xs = true → rcs w D E xs cs → rcs w D E' xs cs
  | [], cs, _, hr => by simpa only [rcs] using hr
  | x :: xs, cs, ho, hr => by
    simp only [rcs, AV.onlys, Bool.and_eq_true] at *
    obtain ⟨c1, c2, h1, h2, h3⟩ := hr
    exact ⟨c1, c2, h1, rc.restrict hE x c1 ho.1 h2, rcs.restrict hE xs c2 ho.2 h3⟩
theorem rvs.restrict {w : World} {D : Dom} {E E' : Env} {p : Nat → Bool} (hE : ∀ n, p n = true → E' n = E n) : ∀ (xs : List AV) (vs : List Value), AV.onlys p xs = true → rvs w D E xs vs → rvs w D E' xs vs
  | [], vs, _, hr => by simpa only [rvs] using hr
  | x :: xs, vs, ho, hr => by
    simp only [rvs, AV.onlys, Bool.and_eq_true] at *
    obtain ⟨v, rest, cs, h1, h2, h3, h4⟩ := hr
    exact ⟨v, rest, cs, h1, h2, rc.restrict hE x cs ho.1 h3, rvs.restrict hE xs rest ho.2 h4⟩
end
theorem rv.restrict {w : World} {D : Dom} {E E' : Env} {p : Nat → Bool} (hE : ∀ n, p n = true → E' n = E n) {x : AV} {v : Value} (ho : x.only p = true) (hr : rv w D E x v) : rv w D E' x v := by
  cases x <;> simp only [rv] at * <;> first
    | exact hr
    | (obtain ⟨vs, h1, h2⟩ := hr; exact ⟨vs, h1, rvs.restrict hE _ _ (by simpa [AV.only] using ho) h2⟩)
    | (obtain ⟨cs, h1, h2⟩ := hr; exact ⟨cs, h1, rc.restrict hE _ _ ho h2⟩)
def AO.only (p : Nat → Bool) : AO → Bool
  | .box x => x.only p
  | .row _ _ es => AV.onlys p es
  | .opq _ => true
/-! ### names, renamed -/
def rnm : List (Nat × Nat) → Nat → Nat
  | [], n => n
  | (a, b) :: r, n => if n = a then b else rnm r n
mutual
def AV.ren (ρ : Nat → Nat) : AV → AV
  | .agg fs => .agg (AV.rens ρ fs)
  | .tuple fs => .tuple (AV.rens ρ fs)
  | .slice sz es => .slice sz (AV.rens ρ es)
  | .ref x => .ref (x.ren ρ)
  | .func f caps => .func f (AV.rens ρ caps)
  | .iface t v => .iface t (v.ren ρ)
  | .ptr n p => .ptr (ρ n) p
  | .own n k => .own (ρ n) k
  | .view n p sz lo k => .view (ρ n) p sz lo k
  | .undef => .undef | .top => .top | .bool b => .bool b | .int k n => .int k n | .str s => .str s
  | .nilp => .nilp | .nilf => .nilf | .nili => .nili | .raw u => .raw u | .nils z => .nils z | .c0 z => .c0 z
def AV.rens (ρ : Nat → Nat) : List AV → List AV
  | [] => []
  | x :: xs => x.ren ρ :: AV.rens ρ xs
end
def AO.ren (ρ : Nat → Nat) : AO → AO
  | .box x => .box (x.ren ρ)
  | .row T sz es => .row T sz (AV.rens ρ es)
  | .opq x => .opq x
mutual
theorem ren_size (ρ : Nat → Nat) : ∀ x : AV, (x.ren ρ).size = x.size
  | .agg fs => by simp only [AV.ren, AV.size]; exact rens_sizes ρ fs
  | .undef | .top | .bool _ | .int _ _ | .str _ | .nilp | .nilf | .nili | .raw _ | .nils _ | .c0 _ | .slice _ _ | .tuple _ | .ref _ | .func _ _ | .iface _ _ | .ptr _ _ | .own _ _ | .view _ _ _ _ _ => by simp only [AV.ren, AV.size]
theorem rens_sizes (ρ : Nat → Nat) : ∀ xs : List AV, AV.sizes (AV.rens ρ xs) = AV.sizes xs
  | [] => rfl
  | x :: xs => by simp only [AV.rens, AV.sizes, ren_size ρ x, rens_sizes ρ xs]
end
mutual
theorem ren_sh (ρ : Nat → Nat) : ∀ x : AV, (x.ren ρ).sh = x.sh
  | .agg fs => by simp only [AV.ren, AV.sh, Sh.many.injEq]; exact rens_shs ρ fs
  | .undef | .top | .bool _ | .int _ _ | .str _ | .nilp | .nilf | .nili | .raw _ | .nils _ | .c0 _ | .slice _ _ | .tuple _ | .ref _ | .func _ _ | .iface _ _ | .ptr _ _ | .own _ _ | .view _ _ _ _ _ => by simp only [AV.ren, AV.sh]
theorem rens_shs (ρ : Nat → Nat) : ∀ xs : List AV, AV.shs (AV.rens ρ xs) = AV.shs xs
  | [] => rfl
  | x :: xs => by simp only [AV.rens, AV.shs, ren_sh ρ x, rens_shs ρ xs]
end
theorem ren_isAgg (ρ : Nat → Nat) (x : AV) : (x.ren ρ).isAgg = x.isAgg := by cases x <;> simp [AV.ren, AV.isAgg]
theorem rens_map (ρ : Nat → Nat) (xs : List AV) : AV.rens ρ xs = xs.map (AV.ren ρ) := by
  induction xs with
  | nil => rfl
  | cons x xs ih => simp [AV.rens, ih]
theorem rens_length (ρ : Nat → Nat) (xs : List AV) : (AV.rens ρ xs).length = xs.length := by rw [rens_map]; simp
theorem ren_isPack (ρ : Nat → Nat) (x : AV) (v : Value) (cs : List Value) : isPack (x.ren ρ) v cs = isPack x v cs := by simp only [isPack, ren_isAgg]
mutual
/-- A value, its names put for others that stand for the same. -/
theorem rc.ren {w : World} {D : Dom} {E E' : Env} {p : Nat → Bool} {ρ : Nat → Nat} (hE : ∀ n, p n = true → E' (ρ n) = E n) : ∀ (x : AV) (cs : List Value), x.only p = true → (rc w D E' (x.ren ρ) cs ↔ rc w D E x cs)
  | .agg fs, cs, ho => by simp only [rc, AV.ren, AV.only] at *; exact rcs.ren hE fs cs ho
  | .bool b, cs, _ | .int k n, cs, _ | .str s, cs, _ | .nilp, cs, _ | .nilf, cs, _ | .nili, cs, _ | .raw _, cs, _ | .nils _, cs, _ | .c0 _, cs, _ | .undef, cs, _ | .top, cs, _ | .tuple _, cs, _ => by simp only [rc, AV.ren]
  | .slice sz es, cs, ho => by
    simp only [rc, AV.ren, AV.only, rens_length] at *
    have e1 : (AV.rens ρ es = []) ↔ es = [] := by rw [← List.length_eq_zero_iff, rens_length, List.length_eq_zero_iff]
    have e2 : (∀ e ∈ AV.rens ρ es, e.size = sz) ↔ ∀ e ∈ es, e.size = sz := by
      rw [rens_map]
      constructor
      · intro h e he
        rw [← ren_size ρ e]; exact h _ (List.mem_map.2 ⟨e, he, rfl⟩)
      · intro h e he
        obtain ⟨e', he', rfl⟩ := List.mem_map.1 he
        rw [ren_size]; exact h _ he'
    simp only [e1, e2]
    constructor
    · rintro ⟨a, cap, h1, h2, h3, h4, h5⟩
      refine ⟨a, cap, h1, h2, h3, ?_, h5⟩
      rcases h4 with h4 | ⟨b, off, cs', h6, h7, h8⟩
      · exact .inl h4
      · exact .inr ⟨b, off, cs', h6, h7, (rcs.ren hE es cs' ho).1 h8⟩
    · rintro ⟨a, cap, h1, h2, h3, h4, h5⟩
      refine ⟨a, cap, h1, h2, h3, ?_, h5⟩
      rcases h4 with h4 | ⟨b, off, cs', h6, h7, h8⟩
      · exact .inl h4
      · exact .inr ⟨b, off, cs', h6, h7, (rcs.ren hE es cs' ho).2 h8⟩
  | .ref x, cs, ho => by
    simp only [rc, AV.ren, AV.only] at *
    constructor
    · rintro ⟨b, off, cs', h1, h2, h3⟩
      exact ⟨b, off, cs', h1, h2, (rc.ren hE x cs' ho).1 h3⟩
    · rintro ⟨b, off, cs', h1, h2, h3⟩
      exact ⟨b, off, cs', h1, h2, (rc.ren hE x cs' ho).2 h3⟩
  | .func f caps, cs, ho => by
    simp only [rc, AV.ren, AV.only] at *
    constructor
    · rintro ⟨vs, h1, h2⟩
      exact ⟨vs, h1, (rvs.ren hE caps vs ho).1 h2⟩
    · rintro ⟨vs, h1, h2⟩
      exact ⟨vs, h1, (rvs.ren hE caps vs ho).2 h2⟩
  | .iface t v, cs, ho => by
    simp only [rc, AV.ren, AV.only, ren_isPack] at *
    constructor
    · rintro ⟨u, cs', h1, h2, h3⟩
      exact ⟨u, cs', h1, h2, (rc.ren hE v cs' ho).1 h3⟩
    · rintro ⟨u, cs', h1, h2, h3⟩
      exact ⟨u, cs', h1, h2, (rc.ren hE v cs' ho).2 h3⟩
  | .ptr n p, cs, ho => by simp only [rc, AV.ren, AV.only] at *; rw [hE n ho]
  | .own n k, cs, ho => by simp only [rc, AV.ren, AV.only] at *; rw [hE n ho]
  | .view n p _ _ _, cs, ho => by simp only [rc, AV.ren, AV.only] at *; rw [hE n ho]
theorem rcs.ren {w : World} {D : Dom} {E E' : Env} {p : Nat → Bool} {ρ : Nat → Nat} (hE : ∀ n, p n = true → E' (ρ n) = E n) : ∀ (xs : List AV) (cs : List Value), AV.onlys p xs = true → (rcs w D E' (AV.rens ρ xs) cs ↔ rcs w D E xs cs)
  | [], cs, _ => by simp only [rcs, AV.rens]
  | x :: xs, cs, ho => by
    simp only [rcs, AV.rens, AV.onlys, Bool.and_eq_true] at *
    constructor
    · rintro ⟨c1, c2, h1, h2, h3⟩
      exact ⟨c1, c2, h1, (rc.ren hE x c1 ho.1).1 h2, (rcs.ren hE xs c2 ho.2).1 h3⟩
    · rintro ⟨c1, c2, h1, h2, h3⟩
      exact ⟨c1, c2, h1, (rc.ren hE x c1 ho.1).2 h2, (rcs.ren hE xs c2 ho.2).2 h3⟩
theorem rvs.ren {w : World} {D : Dom} {E E' : Env} {p : Nat → Bool} {ρ : Nat → Nat} (hE : ∀ n, p n = true → E' (ρ n) = E n) : ∀ (xs : List AV) (vs : List Value), AV.onlys p xs = true → (rvs w D E' (AV.rens ρ xs) vs ↔ rvs w D E xs vs)
  | [], vs, _ => by simp only [rvs, AV.rens]
  | x :: xs, vs, ho => by
    simp only [rvs, AV.rens, AV.onlys, Bool.and_eq_true, ren_isPack] at *
    constructor
    · rintro ⟨v, rest, cs, h1, h2, h3, h4⟩
      exact ⟨v, rest, cs, h1, h2, (rc.ren hE x cs ho.1).1 h3, (rvs.ren hE xs rest ho.2).1 h4⟩
    · rintro ⟨v, rest, cs, h1, h2, h3, h4⟩
      exact ⟨v, rest, cs, h1, h2, (rc.ren hE x cs ho.1).2 h3, (rvs.ren hE xs rest ho.2).2 h4⟩
end
theorem rv.ren {w : World} {D : Dom} {E E' : Env} {p : Nat → Bool} {ρ : Nat → Nat} (hE : ∀ n, p n = true → E' (ρ n) = E n) {x : AV} {v : Value} (ho : x.only p = true) : rv w D E' (x.ren ρ) v ↔ rv w D E x v := by
  cases x <;> first
    | (simp only [rv, AV.ren]; done)
    | (simp only [rv, AV.ren, AV.only] at ho ⊢
       constructor
       · rintro ⟨vs, h1, h2⟩; exact ⟨vs, h1, (rvs.ren hE _ _ ho).1 h2⟩
       · rintro ⟨vs, h1, h2⟩; exact ⟨vs, h1, (rvs.ren hE _ _ ho).2 h2⟩)
    | (have key := fun x cs => rc.ren (w := w) (D := D) hE x cs
       refine exists_congr fun cs => and_congr ?_ ?_
       · first | exact Iff.rfl | simp only [isPack, AV.ren, AV.isAgg]
       · first | exact key _ cs ho | (have h := key _ cs ho; simpa only [AV.ren] using h))
end Go.Abs

/-
  THE ABSTRACT LAYER, 10d: objects handed over to a call and taken back. Over any program.
-/
namespace Go.Abs
open Go Go.RowKit
mutual
/-- Values that read no memory: but they may name objects. -/
def AV.lean : AV → Bool
  | .agg fs | .tuple fs => AV.leans fs
  | .func _ caps => AV.leans caps
  | .iface _ v => v.lean
  | .slice _ es => es.isEmpty
  | .ref _ => false
  | _ => true
def AV.leans : List AV → Bool
  | [] => true
  | x :: xs => x.lean && AV.leans xs
end
def AO.lean : AO → Bool
  | .box x => x.lean
  | .row _ _ es => AV.leans es
  | .opq _ => true
mutual
theorem rc.lean {w w' : World} {D D' : Dom} {E : Env} : ∀ (x : AV) (cs : List Value), x.lean = true → rc w D E x cs → rc w' D' E x cs
  | .agg fs, cs, hf, hr => by simp only [rc, AV.lean] at *; exact rcs.lean fs cs hf hr
  | .bool b, cs, _, hr | .int k n, cs, _, hr | .str s, cs, _, hr | .nilp, cs, _, hr | .nilf, cs, _, hr | .nili, cs, _, hr | .raw _, cs, _, hr | .nils _, cs, _, hr | .c0 _, cs, _, hr
  | .ptr _ _, cs, _, hr | .own _ _, cs, _, hr | .view _ _ _ _ _, cs, _, hr => by simpa only [rc] using hr
  | .func f caps, cs, hf, hr => by
    simp only [rc, AV.lean] at *
    obtain ⟨vs, h1, h2⟩ := hr
    exact ⟨vs, h1, rvs.lean caps vs hf h2⟩
  | .iface t v, cs, hf, hr => by
    simp only [rc, AV.lean] at *
    obtain ⟨u, cs', h1, h2, h3⟩ := hr
    exact ⟨u, cs', h1, h2, rc.lean v cs' hf h3⟩
  | .slice sz es, cs, hf, hr => by
    simp only [rc, AV.lean, List.isEmpty_iff] at *
    subst hf
    obtain ⟨a, cap, h1, h2, h3, _, h5⟩ := hr
    exact ⟨a, cap, h1, h2, h3, .inl rfl, h5⟩
  | .ref _, _, hf, _ => by simp [AV.lean] at hf
  | .undef, _, _, hr | .top, _, _, hr | .tuple _, _, _, hr => by simp only [rc] at hr
theorem rcs.lean {w w' : World} {D D' : Dom} {E : Env} : ∀ (xs : List AV) (cs : List Value), AV.leans xs = true → rcs w D E xs cs → rcs w' D' E xs cs
  | [], cs, _, hr => by simpa only [rcs] using hr
  | x :: xs, cs, hf, hr => by
    simp only [rcs, AV.leans, Bool.and_eq_true] at *
    obtain ⟨c1, c2, h1, h2, h3⟩ := hr
    exact ⟨c1, c2, h1, rc.lean x c1 hf.1 h2, rcs.lean xs c2 hf.2 h3⟩
theorem rvs.lean {w w' : World} {D D' : Dom} {E : Env} : ∀ (xs : List AV) (vs : List Value), AV.leans xs = true → rvs w D E xs vs → rvs w' D' E xs vs
  | [], vs, _, hr => by simpa only [rvs] using hr
  | x :: xs, vs, hf, hr => by
    simp only [rvs, AV.leans, Bool.and_eq_true] at *
    obtain ⟨v, rest, cs, h1, h2, h3, h4⟩ := hr
    exact ⟨v, rest, cs, h1, h2, rc.lean x cs hf.1 h3, rvs.lean xs rest hf.2 h4⟩
end
theorem rv.lean {w w' : World} {D D' : Dom} {E : Env} {x : AV} {v : Value} (hf : x.lean = true) (hr : rv w D E x v) : rv w' D' E x v := by
  cases x <;> simp only [rv] at * <;> first
    | exact hr
    | (obtain ⟨vs, h1, h2⟩ := hr; exact ⟨vs, h1, rvs.lean _ _ (by simpa [AV.lean] using hf) h2⟩)
    | (obtain ⟨cs, h1, h2⟩ := hr; exact ⟨cs, h1, rc.lean _ _ hf h2⟩)
def renO (ρ : List (Nat × Nat)) (os : List (Nat × AO)) : List (Nat × AO) := os.map fun q => (rnm ρ q.1, q.2.ren (rnm ρ))
def pre (ρ : List (Nat × Nat)) (os : List (Nat × AO)) (n : Nat) : Option Nat := (os.find? fun q => rnm ρ q.1 == n).map (·.1)
theorem isIn_iff {os : List (Nat × AO)} {m : Nat} : isIn os m = true ↔ ∃ q ∈ os, q.1 = m := by
  induction os with
  | nil => simp [isIn, lookO]
  | cons q os ih =>
    obtain ⟨k, v⟩ := q
    simp only [isIn, lookO] at *
    by_cases h : m = k
    · subst h; simp
    · simp only [if_neg h, ih, List.mem_cons, Prod.exists, exists_and_right, exists_eq_right]
      constructor
      · rintro ⟨a, b⟩; exact ⟨a, .inr b⟩
      · rintro ⟨a, b | b⟩
        · cases b; exact absurd rfl h
        · exact ⟨a, b⟩
theorem pre_some {ρ : List (Nat × Nat)} {os : List (Nat × AO)} {n m : Nat} (h : pre ρ os n = some m) : isIn os m = true ∧ rnm ρ m = n := by
  simp only [pre, Option.map_eq_some_iff] at h
  obtain ⟨q, hq, rfl⟩ := h
  exact ⟨isIn_iff.2 ⟨q, List.mem_of_find?_eq_some hq, rfl⟩, by simpa using List.find?_some hq⟩
theorem pre_none {ρ : List (Nat × Nat)} {os : List (Nat × AO)} {n m : Nat} (h : pre ρ os n = none) (hm : isIn os m = true) : rnm ρ m ≠ n := by
  simp only [pre, Option.map_eq_none_iff, List.find?_eq_none] at h
  obtain ⟨q, hq, rfl⟩ := isIn_iff.1 hm
  simpa using h q hq
theorem lookO_renO (ρ : List (Nat × Nat)) (os os0 : List (Nat × AO)) (n : Nat) : lookO (renO ρ os ++ os0) n = match pre ρ os n with
    | some m => (lookO os m).map (AO.ren (rnm ρ))
    | none => lookO os0 n := by
  induction os with
  | nil => simp [renO, pre]
  | cons q os ih =>
    obtain ⟨k, v⟩ := q
    simp only [renO, List.map_cons, List.cons_append, lookO, pre, List.find?_cons] at *
    by_cases h : rnm ρ k = n
    · subst h; simp
    · rw [if_neg (Ne.symm h)]
      have hb : (rnm ρ k == n) = false := by simpa using h
      rw [hb, ih]
      simp only
      cases hf : os.find? (fun q => rnm ρ q.1 == n) with
      | none => rfl
      | some q =>
        simp only [Option.map_some]
        have hq := List.find?_some hf
        have hne : q.1 ≠ k := fun e => h (by rw [← e]; simpa using hq)
        rw [if_neg hne]
/-- The names of what is handed over, as the call knows them. -/
def hE (ρ : List (Nat × Nat)) (os : List (Nat × AO)) (E : Env) : Env := fun n => if isIn os n then E (rnm ρ n) else none
/-- What is handed over. -/
structure Gvn (ρ : List (Nat × Nat)) (os os0 : List (Nat × AO)) : Prop where
  at' : ∀ m x, lookO os m = some x → lookO os0 (rnm ρ m) = some (x.ren (rnm ρ)) ∧ x.only (isIn os) = true ∧ x.fix = true
  inj : ∀ m m', isIn os m = true → isIn os m' = true → rnm ρ m = rnm ρ m' → m = m'
/-- What comes back. -/
structure Bck (bx : Bool) (ρ : List (Nat × Nat)) (os os0 : List (Nat × AO)) (r : AV) (os' : List (Nat × AO)) : Prop where
  at' : ∀ m x, lookO os' m = some x → x.only (isIn os') = true ∧ x.fix = true ∧ (bx = true → x.lean = true)
  inj : ∀ m m', isIn os' m = true → isIn os' m' = true → rnm ρ m = rnm ρ m' → m = m'
  old : ∀ m, isIn os m = true → isIn os' m = true
  new : ∀ m, isIn os' m = true → isIn os m = false → lookO os0 (rnm ρ m) = none ∧ rnm ρ m < 1000000
  res : r.only (isIn os') = true ∧ (bx = true → r.lean = true)
section
variable {c : Ctx} {a : Act} {w : World} {D : Dom} {E : Env} {ts : List (Nat × AV)} {os0 os : List (Nat × AO)} {ρ : List (Nat × Nat)}
theorem SimW.given (hs : SimW c (mkA ts os0) a w D E) (hg : Gvn ρ os os0) {m : Nat} (hm : isIn os m = true) : ∃ x e b, lookO os m = some x ∧ hE ρ os E m = some e ∧ E (rnm ρ m) = some e ∧ e.blk = some b ∧ e.fix = true ∧ c.Mine b ∧
    objOk (fun _ => True) w D (hE ρ os E) m (some x) ∧ (∃ o, w.heap[b]? = some o ∧ (o.isCells = true ∨ isRec o = true)) ∧ (∀ o, ¬ D b o) ∧ b < w.heap.size := by
  cases hx : lookO os m with
  | none => simp [isIn, hx] at hm
  | some x =>
    obtain ⟨h1, h2, h3⟩ := hg.at' m x hx
    have ho := hs.obj (rnm ρ m)
    simp only [mkA] at ho
    rw [h1] at ho
    have hEm : hE ρ os E m = E (rnm ρ m) := by simp only [hE, hm, if_true]
    cases x with
    | row T sz es => cases h3
    | box y =>
      obtain ⟨b, cs, T, k1, k2, k3, k4, k5⟩ := ho
      rw [ren_sh] at k1
      refine ⟨_, _, b, rfl, hEm.trans k1, k1, rfl, rfl, k2, ⟨b, cs, T, hEm.trans k1, trivial, k3, ?_, k5⟩, ⟨_, k3, .inl rfl⟩, k5, heap_lt k3⟩
      exact (rc.ren (p := isIn os) (fun n hn => by simp only [hE, hn, if_true]) y _ (by simpa [AO.only] using h2)).1 k4
    | opq o =>
      obtain ⟨b, k1, k2, k3, k4, k5⟩ := ho
      exact ⟨_, _, b, rfl, hEm.trans k1, k1, rfl, rfl, k2, ⟨b, hEm.trans k1, trivial, k3, k4, k5⟩, ⟨_, k3, .inr k4⟩, k5, heap_lt k3⟩
theorem SimW.given_own (hs : SimW c (mkA ts os0) a w D E) (hg : Gvn ρ os os0) {b : Nat} (hb : ownE (hE ρ os E) b) : ∃ m e, isIn os m = true ∧ E (rnm ρ m) = some e ∧ e.blk = some b ∧ c.Mine b ∧ (∃ o, w.heap[b]? = some o ∧ (o.isCells = true ∨ isRec o = true)) ∧ (∀ o, ¬ D b o) ∧ b < w.heap.size := by
  obtain ⟨m, e, h1, h2⟩ := hb
  by_cases hm : isIn os m = true
  · obtain ⟨x, e', b', k1, k2, k3, k4, k5, k6, k7, k8, k9, k10⟩ := hs.given hg hm
    rw [k2, Option.some.injEq] at h1
    subst h1
    rw [k4, Option.some.injEq] at h2
    subst h2
    exact ⟨m, _, hm, k3, k4, k6, k8, k9, k10⟩
  · simp [hE, hm] at h1
theorem SimW.heldO (hs : SimW c (mkA ts os0) a w D E) (hg : Gvn ρ os os0) {D1 : Dom} (hD : ∀ b o, D b o → D1 b o) (hown : ∀ b o, D1 b o → ¬ ownE (hE ρ os E) b) : HeldO (fun _ => True) w D1 (hE ρ os E) (lookO os) := by
  refine ⟨fun n => ?_, fun n m e e' b h1 h2 h3 h4 => ?_⟩
  · cases hx : lookO os n with
    | none => simp [objOk, hE, isIn, hx]
    | some x =>
      have hm : isIn os n = true := by simp [isIn, hx]
      obtain ⟨y, e, b, k1, k2, k3, k4, k5, k6, k7, k8, k9, k10⟩ := hs.given hg hm
      rw [hx, Option.some.injEq] at k1
      subst k1
      have hno : ∀ o, ¬ D1 b o := fun o ho => hown b o ho ⟨n, _, k2, k4⟩
      refine k7.later (E' := hE ρ os E) ⟨hD, fun _ _ _ _ h => h, fun _ _ _ h => h, fun _ blk l h => ⟨blk, l, h, Nat.le_refl _, fun _ => rfl⟩⟩ rfl fun e' b' he hb' => ⟨rfl, fun o ho => ?_⟩
      rw [k2, Option.some.injEq] at he
      subst he
      rw [k4, Option.some.injEq] at hb'
      subst hb'
      exact absurd ho (hno o)
  · have hn : isIn os n = true := by by_cases h : isIn os n = true; · exact h
                                     · simp [hE, h] at h1
    have hm : isIn os m = true := by by_cases h : isIn os m = true; · exact h
                                     · simp [hE, h] at h2
    simp only [hE, hn, hm, if_true] at h1 h2
    exact hg.inj n m hn hm (hs.sep _ _ e e' b h1 h2 h3 h4)
/-- **What the caller's frame and memory fit when the call has come back.** -/
theorem SimW.back (hs : SimW c (mkA ts os0) a w D E) (hg : Gvn ρ os os0) {bx : Bool} {D1 : Dom} (hD : ∀ b o, D b o → D1 b o) (hbx : bx = false → ∀ b o, D1 b o → D b o) {w' : World} {D' : Dom} {E' : Env} {v : Value} {r : AV} {os' : List (Nat × AO)}
    (hb : Bck bx ρ os os0 r os') (hr : rv w' D' E' r v) (hh : HeldO (fun b => w.heap.size ≤ b ∨ ownE (hE ρ os E) b) w' D' E' (lookO os')) (hk : Kept (fun b => w.heap.size ≤ b ∨ ownE (hE ρ os E) b) w w')
    (hlive : ∀ b o, D' b o → b < w'.heap.size) (hold : ∀ b o, D' b o → b < w.heap.size → ¬ ownE (hE ρ os E) b → D1 b o) (hbox : ∀ n e, hE ρ os E n = some e → e.fix = true → isIn os' n = true → E' n = some e) :
    ∃ D2 E2, SimW c (mkA ts (renO ρ os' ++ os0)) a w' D2 E2 ∧ rv w' D2 E2 (r.ren (rnm ρ)) v ∧ ∀ m e, hE ρ os E m = some e → e.fix = true → isIn os' m = true → E2 (rnm ρ m) = some e := by
  obtain ⟨M1, hM1⟩ : ∃ M1 : Nat → Prop, M1 = fun b => w.heap.size ≤ b ∨ ownE (hE ρ os E) b := ⟨_, rfl⟩
  rw [← hM1] at hh hk
  obtain ⟨D2, hD2⟩ : ∃ D2 : Dom, D2 = fun b o => D b o ∨ (M1 b ∧ D' b o) := ⟨_, rfl⟩
  obtain ⟨E2, hE2⟩ : ∃ E2 : Env, E2 = fun n => match pre ρ os' n with | some m => E' m | none => E n := ⟨_, rfl⟩
  have mine : ∀ b, M1 b → c.Mine b := fun b hb' => by
    rw [hM1] at hb'
    rcases hb' with h | h
    · exact .inl (Nat.le_trans hs.unch.size h)
    · obtain ⟨m, e, _, _, _, h3, _⟩ := hs.given_own hg h
      exact h3
  have notM : ∀ b o, D b o → ¬ M1 b := fun b o hd hm => by
    rw [hM1] at hm
    rcases hm with h | h
    · exact absurd (hs.live b o hd) (by omega)
    · obtain ⟨m, e, _, _, _, _, _, h5, _⟩ := hs.given_own hg h
      exact h5 o hd
  have E2m : ∀ m, isIn os' m = true → E2 (rnm ρ m) = E' m := fun m hm => by
    rw [hE2]
    simp only
    cases hp : pre ρ os' (rnm ρ m) with
    | none => exact absurd rfl (pre_none hp hm)
    | some m' =>
      obtain ⟨h1, h2⟩ := pre_some hp
      rw [hb.inj m' m h1 hm h2]
  have E2o : ∀ n, pre ρ os' n = none → E2 n = E n := fun n hn => by rw [hE2]; simp only [hn]
  -- a name that has a new meaning: one that was handed over, or one that was free
  have cas : ∀ n m, pre ρ os' n = some m → (isIn os m = true ∧ ∃ e, E n = some e ∧ e.fix = true ∧ E' m = some e) ∨ (isIn os m = false ∧ E n = none ∧ c.E0 n = none) := fun n m hp => by
    obtain ⟨h1, h2⟩ := pre_some hp
    cases hm : isIn os m with
    | true =>
      obtain ⟨y, e, b, k1, k2, k3, _, k5, _⟩ := hs.given hg hm
      rw [h2] at k3
      exact .inl ⟨rfl, e, k3, k5, hbox m e k2 k5 h1⟩
    | false =>
      obtain ⟨k1, k2⟩ := hb.new m h1 hm
      rw [h2] at k1 k2
      have ho := hs.obj n
      simp only [mkA, k1] at ho
      exact .inr ⟨rfl, ho, hs.fresh (.inr k2)⟩
  have hl : Later w D E w' D2 E2 := by
    refine ⟨fun b o h => by rw [hD2]; exact .inl h, fun b o v' hd hv => ?_, fun n b sh he => ?_, fun n blk l he => ?_⟩
    · rw [World.cell?_of_block (hk.block b (notM b o hd))]; exact hv
    · cases hp : pre ρ os' n with
      | none => rw [E2o n hp]; exact he
      | some m =>
        rw [hE2]; simp only [hp]
        rcases cas n m hp with ⟨_, e', k1, _, k2⟩ | ⟨_, k1, _⟩
        · rw [he] at k1; rw [k2, ← k1]
        · rw [he] at k1; cases k1
    · cases hp : pre ρ os' n with
      | none => exact ⟨blk, l, by rw [E2o n hp]; exact he, Nat.le_refl _, fun _ => rfl⟩
      | some m =>
        rcases cas n m hp with ⟨_, e', k1, k2, _⟩ | ⟨_, k1, _⟩ <;> rw [he] at k1 <;> cases k1
        cases k2
  -- blocks of names that were not handed over
  have other : ∀ n e b, pre ρ os' n = none → E n = some e → e.blk = some b → ¬ M1 b := fun n e b hp he hb' hm => by
    rw [hM1] at hm
    rcases hm with h | h
    · exact absurd (hs.blk_lt he hb') (by omega)
    · obtain ⟨m, e', h1, h2, h3, _⟩ := hs.given_own hg h
      have := hs.sep n (rnm ρ m) e _ b he h2 hb' h3
      exact pre_none hp (hb.old m h1) this.symm
  have toD2 : ∀ {x : AV} {cs : List Value}, (bx = true → x.lean = true) → rc w' D' E2 x cs → rc w' D2 E2 x cs := fun {x cs} hx h => by
    cases hbb : bx with
    | true => exact rc.lean x cs (hx hbb) h
    | false =>
      refine rc.later (E := E2) ⟨fun b o hd => ?_, fun _ _ _ _ h => h, fun _ _ _ h => h, fun _ blk l h => ⟨blk, l, h, Nat.le_refl _, fun _ => rfl⟩⟩ x cs h
      rw [hD2]
      by_cases hm : M1 b
      · exact .inr ⟨hm, hd⟩
      · rw [hM1] at hm
        exact .inl (hbx hbb b o (hold b o hd (Nat.lt_of_not_le fun h => hm (.inl h)) fun h => hm (.inr h)))
  refine ⟨D2, E2, ⟨hs.sz, hs.defs.mono fun B _ hB => ?_, fun t => rv.later hl (hs.tm t), hs.unch.trans ⟨hk.os, hk.tape, hk.output, hk.size, fun k hk' => hk.block k fun h => hk' (mine k h)⟩, fun b o hd hm => ?_, fun b o hd => ?_, fun n => ?_, ?_, fun n e hn hfx => ?_, hs.nam,
    fun b o hd => hl.dom b o (hs.up b o hd), hs.yok⟩, ?_, fun m e k1 k2 k3 => (E2m m k3).trans (hbox m e k1 k2 k3)⟩
  · refine (hk.block B fun hm => ?_).trans hB
    rw [hM1] at hm
    rcases hm with h | h
    · exact absurd (Array.getElem?_eq_some_iff.1 hB).1 (by omega)
    · obtain ⟨m, e, _, _, _, _, ⟨o, h4, h5⟩, _⟩ := hs.given_own hg h
      rw [hB] at h4; cases h4
      rcases h5 with h5 | h5 <;> cases h5
  · rw [hD2] at hd
    rcases hd with hd | ⟨h1, _⟩
    · exact hs.dom b o hd hm
    · exact absurd (mine b h1) hm
  · rw [hD2] at hd
    rcases hd with hd | ⟨_, h1⟩
    · exact Nat.lt_of_lt_of_le (hs.live b o hd) hk.size
    · exact hlive b o h1
  · simp only [mkA, lookO_renO]
    cases hp : pre ρ os' n with
    | none =>
      simp only
      refine (hs.obj n).later hl (E2o n hp) fun e b he hb' => ⟨hk.block b (other n e b hp he hb'), fun o ho => ?_⟩
      rw [hD2] at ho
      rcases ho with ho | ⟨h1, _⟩
      · exact ho
      · exact absurd h1 (other n e b hp he hb')
    | some m =>
      simp only
      obtain ⟨h1, h2⟩ := pre_some hp
      cases hx : lookO os' m with
      | none => simp [isIn, hx] at h1
      | some x =>
        obtain ⟨k1, kf, k2⟩ := hb.at' m x hx
        have ho := hh.obj m
        rw [hx] at ho
        cases x with
        | row T sz es => cases kf
        | opq x =>
          obtain ⟨b, q1, q2, q3, q4, q5⟩ := ho
          simp only [Option.map_some, AO.ren, objOk]
          refine ⟨b, by rw [← h2, E2m m h1]; exact q1, mine b q2, q3, q4, fun o ho => ?_⟩
          rw [hD2] at ho
          rcases ho with ho | ⟨_, ho⟩
          · exact notM b o ho q2
          · exact q5 o ho
        | box y =>
          obtain ⟨b, cs, T, q1, q2, q3, q4, q5⟩ := ho
          simp only [Option.map_some, AO.ren, objOk]
          refine ⟨b, cs, T, by rw [ren_sh, ← h2, E2m m h1]; exact q1, mine b q2, q3, ?_, fun o ho => ?_⟩
          · have h3 := (rc.ren (w := w') (D := D') (p := isIn os') (ρ := rnm ρ) (E := E') (E' := E2) (fun n hn => E2m n hn) y cs.toList (by simpa [AO.only] using k1)).2 q4
            cases hbb : bx with
            | true =>
              have h4 : rc w' D2 E' y cs.toList := rc.lean y _ (k2 hbb) q4
              exact (rc.ren (w := w') (D := D2) (p := isIn os') (ρ := rnm ρ) (E := E') (E' := E2) (fun n hn => E2m n hn) y cs.toList (by simpa [AO.only] using k1)).2 h4
            | false => exact toD2 (fun h => by rw [hbb] at h; cases h) h3
          · rw [hD2] at ho
            rcases ho with ho | ⟨_, ho⟩
            · exact notM b o ho q2
            · exact q5 o ho
  · intro n m e e' b h1 h2 h3 h4
    have blk' : ∀ n m e, pre ρ os' n = some m → E2 n = some e → e.blk = some b → M1 b ∧ E' m = some e := fun n m e hp he hb' => by
      obtain ⟨k1, k2⟩ := pre_some hp
      rw [← k2, E2m m k1] at he
      cases hx : lookO os' m with
      | none => simp [isIn, hx] at k1
      | some x =>
        obtain ⟨_, kf, _⟩ := hb.at' m x hx
        have ho := hh.obj m
        rw [hx] at ho
        cases x with
        | row T sz es => cases kf
        | opq x =>
          obtain ⟨b', q1, q2, _⟩ := ho
          rw [q1, Option.some.injEq] at he
          subst he
          simp only [Ent.blk, Option.some.injEq] at hb'
          subst hb'
          exact ⟨q2, q1⟩
        | box y =>
          obtain ⟨b', cs, T, q1, q2, _⟩ := ho
          rw [q1, Option.some.injEq] at he
          subst he
          simp only [Ent.blk, Option.some.injEq] at hb'
          subst hb'
          exact ⟨q2, q1⟩
    cases hn : pre ρ os' n with
    | none =>
      have g1 : E n = some e := by rw [← E2o n hn]; exact h1
      cases hm : pre ρ os' m with
      | none => exact hs.sep n m e e' b g1 (by rw [← E2o m hm]; exact h2) h3 h4
      | some m' => exact absurd (blk' m m' e' hm h2 h4).1 (other n e b hn g1 h3)
    | some n' =>
      have g1 := blk' n n' e hn h1 h3
      cases hm : pre ρ os' m with
      | none => exact absurd g1.1 (other m e' b hm (by rw [← E2o m hm]; exact h2) h4)
      | some m' =>
        have g2 := blk' m m' e' hm h2 h4
        have := hh.sep n' m' e e' b g1.2 g2.2 h3 h4
        rw [← (pre_some hn).2, ← (pre_some hm).2, this]
  · cases hp : pre ρ os' n with
    | none => rw [E2o n hp]; exact hs.hist n e hn hfx
    | some m =>
      rcases cas n m hp with ⟨_, e', k1, _, k2⟩ | ⟨_, _, k1⟩
      · rcases hs.hist n e hn hfx with h | h
        · rw [h] at k1; cases k1
        · rw [k1, Option.some.injEq] at h
          rw [h] at k2
          right
          rw [hE2]; simp only [hp]; exact k2
      · rw [hn] at k1; cases k1
  · have h3 := (rv.ren (w := w') (p := isIn os') (ρ := rnm ρ) (E := E') (E' := E2) (D := D') (fun n hn => E2m n hn) (v := v) hb.res.1).2 hr
    cases hbb : bx with
    | true => exact (rv.ren (w := w') (p := isIn os') (ρ := rnm ρ) (E := E') (E' := E2) (D := D2) (fun n hn => E2m n hn) (v := v) hb.res.1).2 (rv.lean (hb.res.2 hbb) hr)
    | false =>
      refine rv.later (E := E2) ⟨fun b o hd => ?_, fun _ _ _ _ h => h, fun _ _ _ h => h, fun _ blk l h => ⟨blk, l, h, Nat.le_refl _, fun _ => rfl⟩⟩ h3
      rw [hD2]
      by_cases hm : M1 b
      · exact .inr ⟨hm, hd⟩
      · rw [hM1] at hm
        exact .inl (hbx hbb b o (hold b o hd (Nat.lt_of_not_le fun h => hm (.inl h)) fun h => hm (.inr h)))
end
end Go.Abs

/-
  THE ABSTRACT LAYER, 10e: parts of variables as slices: what they read; parts that are written; zero cells. Over any program.
-/
namespace Go.Abs
open Go Go.RowKit
theorem zeroCells_toList (z : Array Value) : ∀ n : Nat, (Builtin.zeroCells z n).toList = (List.replicate n z.toList).flatten
  | 0 => by simp [Builtin.zeroCells]
  | n + 1 => by
    rw [List.replicate_succ, List.flatten_cons, ← zeroCells_toList z n]
    apply List.ext_getElem?
    intro i
    by_cases hz : z.size = 0
    · have hz' : z = #[] := Array.eq_empty_of_size_eq_zero hz
      subst hz'
      simp [Builtin.zeroCells]
    have hpos : 0 < z.size := Nat.pos_of_ne_zero hz
    by_cases hi : i < z.toList.length
    · rw [List.getElem?_append_left hi]
      have hi' : i < z.size := by simpa using hi
      have h1 : i < (n + 1) * z.size := by rw [Nat.succ_mul]; omega
      simp only [Builtin.zeroCells, Array.toList_map, Array.toList_range, List.getElem?_map, List.getElem?_range h1, Option.map_some, Nat.mod_eq_of_lt hi']
      simp [hi']
    · rw [List.getElem?_append_right (by omega)]
      have hi' : z.size ≤ i := by simpa using hi
      simp only [Builtin.zeroCells, Array.toList_map, Array.toList_range, List.getElem?_map, Array.length_toList]
      by_cases h2 : i < (n + 1) * z.size
      · have h3 : i - z.size < n * z.size := by rw [Nat.succ_mul] at h2; omega
        rw [List.getElem?_range h2, List.getElem?_range h3]
        simp only [Option.map_some]
        rw [← Nat.mod_eq_sub_mod hi']
      · have h3 : ¬ i - z.size < n * z.size := by rw [Nat.succ_mul] at h2; omega
        rw [List.getElem?_eq_none (by simpa using h2), List.getElem?_eq_none (by simpa using h3)]
theorem rcs_replicate {w : World} {D : Dom} {E : Env} {z : AV} {cs : List Value} (h : rc w D E z cs) : ∀ n : Nat, rcs w D E (List.replicate n z) (List.replicate n cs).flatten
  | 0 => by simp [rcs]
  | n + 1 => by
    simp only [List.replicate_succ, List.flatten_cons, rcs]
    exact ⟨cs, _, rfl, h, rcs_replicate h n⟩
/-- What a slice holds. -/
def srcL (A : AState) (sz : Nat) : AV → Option (List AV)
  | .slice z es => if z = sz then some es else none
  | .nils _ => some []
  | .c0 _ => some []
  | .own n l => match A.o n with
    | some (.row _ z es) => if l = es.length ∧ z = sz then some es else none
    | _ => none
  | .view n p z lo k => match deref A (.ptr n p) with
    | some (.agg fs) => if lo + k ≤ fs.length ∧ z = sz then some ((fs.drop lo).take k) else none
    | _ => none
  | _ => none
section
variable {c : Ctx} {A : AState} {a : Act} {w : World} {D : Dom} {E : Env}
/-- A part of a variable, told apart. -/
theorem SimW.view (h : SimW c A a w D E) {n : Nat} {p : List Nat} {sz lo k : Nat} {v : Value} {fs : List AV} (hv : rv w D E (.view n p sz lo k) v) (hx : deref A (.ptr n p) = some (.agg fs)) :
    ∃ y b cs T off c1 c2 c3, A.o n = some (.box y) ∧ E n = some (.bx b y.sh) ∧ w.heap[b]? = some (.cells cs T (0, 0)) ∧ y.at p = some (.agg fs) ∧ y.sh.off p = some off ∧ cs.toList = c1 ++ c2 ++ c3 ∧ c1.length = off ∧ rcs w D E fs c2 ∧
      rc w D E y cs.toList ∧ (∀ f ∈ fs, f.size = sz) ∧ lo + k ≤ fs.length ∧ fs.length ≤ maxLen ∧ v = .slice (some ⟨b, off + lo * sz, none⟩) k (fs.length - lo) := by
  obtain ⟨z, b', cs', T, off', c1, c2, c3, k1, k2, _, k3, k4, k5, k6, k7, k8, k9, _⟩ := h.at hx
  obtain ⟨vs, g1, g2⟩ := hv
  simp only [rc] at g2
  obtain ⟨b, sh, off, l, h1, h2, h3, h4, h5, h6, h7⟩ := g2
  rw [k2] at h1
  simp only [Option.some.injEq, Ent.bx.injEq] at h1
  obtain ⟨rfl, rfl⟩ := h1
  rw [k5, Option.some.injEq] at h2
  subst h2
  rw [sh_part p z _ k4] at h3
  simp only [AV.sh, Option.some.injEq, Sh.many.injEq] at h3
  subst h3
  rw [AV.shs_eq_map, List.length_map] at h4 h5 h6
  refine ⟨z, b', cs', T, off', c1, c2, c3, k1, k2, k3, k4, k5, k6, k7, by simpa only [rc] using k8, k9, shs_sz h7, h6, h5, ?_⟩
  simpa [isPack, AV.isAgg, h4] using g1.symm
theorem SimW.src (h : SimW c A a w D E) {sz : Nat} {x : AV} {v : Value} {ys : List AV} (hv : rv w D E x v) (hs : srcL A sz x = some ys) :
    ∃ ad cp news, v = .slice ad ys.length cp ∧ ys.length ≤ cp ∧ cp ≤ maxLen ∧ rcs w D E ys news ∧ (∀ y ∈ ys, y.size = sz) ∧ (ys ≠ [] → ∃ b o, ad = some ⟨b, o, none⟩ ∧ ∀ j u, news[j]? = some u → w.cell? ⟨b, o + j, none⟩ = some u) := by
  cases x <;> simp only [srcL] at hs <;> try (cases hs; done)
  case nils z =>
    simp only [Option.some.injEq] at hs; subst hs
    obtain ⟨cs, q1, q2⟩ := hv
    simp only [rc] at q2
    exact ⟨none, 0, [], by simpa [isPack, AV.isAgg, q2] using q1.symm, by simp, by simp [maxLen], by simp [rcs], by simp, fun h => absurd rfl h⟩
  case c0 z =>
    simp only [Option.some.injEq] at hs; subst hs
    obtain ⟨cs, q1, q2⟩ := hv
    simp only [rc] at q2
    obtain ⟨ad, q2⟩ := q2
    exact ⟨ad, 0, [], by simpa [isPack, AV.isAgg, q2] using q1.symm, by simp, by simp [maxLen], by simp [rcs], by simp, fun h => absurd rfl h⟩
  case slice z es =>
    split at hs
    · rename_i hz
      simp only [Option.some.injEq] at hs; subst hs hz
      obtain ⟨ad, cap, e1, e2, e3, e4, e5⟩ := rv_slice hv
      rcases e4 with rfl | ⟨b, off, cs, rfl, q1, q2⟩
      · exact ⟨ad, cap, [], e1, e2, e3, by simp [rcs], by simp, fun h => absurd rfl h⟩
      · exact ⟨_, cap, cs, e1, e2, e3, q2, e5, fun _ => ⟨b, off, rfl, fun j u hj => (q1 j u hj).1⟩⟩
    · cases hs
  case own n l =>
    split at hs
    · rename_i T z es hn
      split at hs
      · rename_i hz
        obtain ⟨hz1, rfl⟩ := hz
        simp only [Option.some.injEq] at hs; subst hs
        obtain ⟨blk, k1, k2, k3⟩ := h.row hn
        obtain ⟨cs, q1, q2⟩ := hv
        simp only [rc] at q2
        obtain ⟨blk', l', g1, g2, _, g4⟩ := q2
        rw [k1] at g1
        simp only [Option.some.injEq, Ent.rw.injEq] at g1
        obtain ⟨rfl, rfl⟩ := g1
        replace g4 := g4 hz1
        cases blk with
        | none =>
          simp only at k3 g4
          subst k3
          have hv' : v = .slice none 0 0 := by rw [g4] at q1; simpa [isPack, AV.isAgg] using q1.symm
          exact ⟨none, 0, [], hv', by simp, by simp [maxLen], by simp [rcs], by simp, fun h => absurd rfl h⟩
        | some bc =>
          obtain ⟨b, cap⟩ := bc
          simp only at g4
          obtain ⟨cs', pre, rest, k4, k5, k6, k7, k8, k9, k10, k11⟩ := k3
          refine ⟨some ⟨b, 0, none⟩, cap, pre, by rw [← hz1]; simpa [isPack, AV.isAgg, g4] using q1.symm, k9, k10, k7, k2, fun _ => ⟨b, 0, rfl, fun j u hj => ?_⟩⟩
          have := (reads_of_heap (D := fun _ _ => True) (c1 := []) (c2 := pre) (c3 := rest) k5 (by simpa using k6) (fun _ _ => trivial)) j u hj
          simpa using this.1
      · cases hs
    · cases hs
  case view n p z lo k =>
    split at hs
    · rename_i fs hx
      split at hs
      · rename_i hk
        obtain ⟨hk, rfl⟩ := hk
        simp only [Option.some.injEq] at hs; subst hs
        obtain ⟨y, b, cs, T, off, c1, c2, c3, k1, k2, k3, k4, k5, k6, k7, k8, k9, k10, k11, k12, rfl⟩ := h.view hv hx
        obtain ⟨d1, d2, d3, rfl, q1, q2, q3⟩ := rcs_cut k8 k10 lo k hk
        have hlen : ((fs.drop lo).take k).length = k := by rw [List.length_take, List.length_drop]; omega
        refine ⟨some ⟨b, off + lo * z, none⟩, fs.length - lo, d2, by rw [hlen], by rw [hlen]; omega, by omega, q2, fun y hy => k10 y (List.mem_of_mem_drop (List.mem_of_mem_take hy)), fun _ => ⟨b, _, rfl, fun j u hj => ?_⟩⟩
        have := (reads_of_heap (D := fun _ _ => True) (c1 := c1 ++ d1) (c2 := d2) (c3 := d3 ++ c3) k3 (by rw [k6]; simp) (fun _ _ => trivial)) j u hj
        rw [List.length_append, k7, q1] at this
        exact this.1
      · cases hs
    · cases hs
/-- A part of a variable is written, element by element. -/
theorem SimW.setSeg (h : SimW c A a w D E) {n : Nat} {p : List Nat} {sz j : Nat} {y : AV} {fs ys : List AV} {b off : Nat} {cs : Array Value} {T : TypeId} {c1 c2 c3 ds : List Value} (hn : A.o n = some (.box y)) (hE : E n = some (.bx b y.sh)) (hb : w.heap[b]? = some (.cells cs T (0, 0)))
    (hat : y.at p = some (.agg fs)) (hoff : y.sh.off p = some off) (hcs : cs.toList = c1 ++ c2 ++ c3) (hc1 : c1.length = off) (hfs : rcs w D E fs c2) (hy : rc w D E y cs.toList) (hsz : ∀ f ∈ fs, f.size = sz) (hys : rcs w D E ys ds) (hj : j + ys.length ≤ fs.length)
    (hsh : AV.shs ys = AV.shs ((fs.drop j).take ys.length)) (P : Program) :
    ∃ w', (storeCells ⟨b, off + j * sz, none⟩ ds 0).run P w = .ok () w' ∧ SimW c (A.setO n (.box (y.setAt p (.agg (fs.take j ++ (ys ++ fs.drop (j + ys.length))))))) a w' D E := by
  obtain ⟨d1, d2, d3, rfl, q1, q2, q3⟩ := rcs_cut hfs hsz j ys.length hj
  have hd1 : rcs w D E (fs.take j) d1 := by
    have e1 : fs = fs.take j ++ fs.drop j := (List.take_append_drop j fs).symm
    rw [e1] at hfs
    obtain ⟨e1, e2, he, k1, k2⟩ := rcs_app _ _ _ hfs
    have hl : e1.length = d1.length := by
      rw [rcs.length _ _ k1, AV.sizes_const _ (fun x hx => hsz x (List.mem_of_mem_take hx)), q1, List.length_take]; congr 1; omega
    have : e1 = d1 := by
      have := congrArg (List.take d1.length) he
      rw [List.take_left, ← hl, List.take_left] at this
      exact this.symm
    rw [← this]; exact k1
  have hlen : ds.length = d2.length := by rw [rcs.length _ _ hys, rcs.length _ _ q2, ← AV.shs_sizes, ← AV.shs_sizes, hsh]
  have hds : rc w D E (.agg (fs.take j ++ (ys ++ fs.drop (j + ys.length)))) (d1 ++ (ds ++ d3)) := by
    simp only [rc]
    refine rcs_append _ _ _ _ hd1 (rcs_append _ _ _ _ hys ?_)
    rw [List.drop_drop] at q3
    exact q3
  have hshape : (AV.agg (fs.take j ++ (ys ++ fs.drop (j + ys.length)))).sh = (AV.agg fs).sh := by
    simp only [AV.sh, Sh.many.injEq, AV.shs_eq_map, List.map_append]
    rw [← AV.shs_eq_map ys, hsh, AV.shs_eq_map, ← List.map_append, ← List.map_append]
    congr 1
    rw [← List.drop_drop, List.take_append_drop, List.take_append_drop]
  obtain ⟨off', g1, g2, g3, g4⟩ := rc_setAt p y _ _ _ _ hy hat hds hshape
  rw [hoff, Option.some.injEq] at g1
  subst g1
  have hst := run_storeCells_at P b (off + j * sz) T ds 0 cs w hb (by
    have : cs.size = cs.toList.length := by simp
    rw [this, hcs]; simp only [List.length_append]; omega) (rcs.oneCell _ _ hys)
  simp only [Nat.add_zero] at hst
  refine ⟨_, hst, ?_⟩
  refine h.setBox hn hE g4 ?_
  have e : cs.toList.take (off + j * sz) ++ ds ++ cs.toList.drop (off + j * sz + ds.length) = cs.toList.take off ++ (d1 ++ (ds ++ d3)) ++ cs.toList.drop (off + (d1 ++ (ds ++ d3)).length) := by
    rw [hcs]
    have t1 : (c1 ++ (d1 ++ (d2 ++ d3)) ++ c3).take (off + j * sz) = c1 ++ d1 := by
      rw [← hc1, ← q1, List.append_assoc, List.take_length_add_append, List.append_assoc, List.take_left]
    have t2 : (c1 ++ (d1 ++ (d2 ++ d3)) ++ c3).drop (off + j * sz + ds.length) = d3 ++ c3 := by
      rw [← hc1, ← q1, hlen, List.append_assoc, Nat.add_assoc, List.drop_length_add_append, List.append_assoc, List.drop_length_add_append, List.append_assoc, List.drop_left]
    have t3 : (c1 ++ (d1 ++ (d2 ++ d3)) ++ c3).take off = c1 := by rw [← hc1, List.append_assoc, List.take_left]
    have t4 : (c1 ++ (d1 ++ (d2 ++ d3)) ++ c3).drop (off + (d1 ++ (ds ++ d3)).length) = c3 := by
      have : (d1 ++ (ds ++ d3)).length = (d1 ++ (d2 ++ d3)).length := by simp [hlen]
      rw [this, ← hc1, List.append_assoc, List.drop_length_add_append, List.drop_left]
    rw [t1, t2, t3, t4]
    simp
  rw [e]
  simpa using g3
end
end Go.Abs

