/-
  THE ABSTRACT LAYER, 17: the rules of reckoning, in bundles; rules of code in the form in which they are used. Over any program.
-/
import Derived.Test.YtkjkbpgdpnapfaaMcc
set_option linter.unusedSimpArgs false
set_option linter.unusedVariables false
namespace Go.Abs
open Go Go.RowKit
open Enc (enc)

def condQ (x : AV) (p q : Prop) : Prop := match x with
  | .bool t => (t = true → p) ∧ (t = false → q)
  | _ => False
theorem AW.ite {c : Ctx} {A : AState} {Q : Exit → AState → Prop} {b : AOpd} {x y : AC} (h : condQ (ev A b) (AW c x Q A) (AW c y Q A)) : AW c (.cond b x y) Q A := by
  generalize hb : ev A b = v at h
  unfold condQ at h
  split at h
  · exact AW.cond hb h.1 h.2
  · exact h.elim

def retR (r : AV) : Option (List AV) → Prop
  | some xs => packR xs = r
  | none => False
theorem retQ_ret (rs : List RV) (r : AV) (A : AState) : retQ rs r .ret A = retR r (resAll A rs) := by
  simp only [retQ, retR]
  cases resAll A rs <;> simp
theorem retQ_normal (rs : List RV) (r : AV) (A : AState) : retQ rs r .normal A = retR r (resAll A rs) := by
  simp only [retQ, retR]
  cases resAll A rs <;> simp

def resO (s : Option Nat) (A : AState) : Option AV → Option AV
  | some x => if okLd s x = true then fin true A x else none
  | none => none
def consO : Option AV → Option (List AV) → Option (List AV)
  | some x, some xs => some (x :: xs)
  | _, _ => none
theorem resAll_nil (A : AState) : resAll A [] = some [] := rfl
theorem resAll_tmp (A : AState) (t : Nat) (rs : List RV) : resAll A (.tmp t :: rs) = consO (fin true A (A.t t)) (resAll A rs) := by
  simp only [resAll, resOf]
  cases fin true A (A.t t) <;> cases resAll A rs <;> rfl
theorem resAll_cell (A : AState) (a : Nat) (s : Option Nat) (rs : List RV) : resAll A (.cell a s :: rs) = consO (resO s A (derefE A (A.t a))) (resAll A rs) := by
  simp only [resAll, resOf, deref_eq]
  cases derefE A (A.t a) with
  | none => cases resAll A rs <;> rfl
  | some x =>
    by_cases h : okLd s x = true
    · simp only [resO, if_pos h]; cases fin true A x <;> cases resAll A rs <;> rfl
    · simp only [resO, if_neg h]; cases resAll A rs <;> rfl

def finR (bx : Bool) (A : AState) : Option AV → Option AV
  | some x => if x.closed = true then some (.ref x) else none
  | none => none
theorem fin_ptr (A : AState) (n : Nat) (p : List Nat) : fin true A (.ptr n p) = finR true A (derefP p (A.o n)) := by
  simp only [fin, deref_eq, derefE, if_true, finR]
  cases derefP p (A.o n) <;> rfl
open Classical in
noncomputable def finV (sz lo k : Nat) : Option (List AV) → Option AV
  | some fs => if AV.closeds ((fs.drop lo).take k) = true then some (.slice sz ((fs.drop lo).take k)) else none
  | none => none
theorem fin_view (A : AState) (n : Nat) (p : List Nat) (sz lo k : Nat) : fin true A (.view n p sz lo k) = finV sz lo k (fldsO (derefP p (A.o n))) := by
  simp only [fin, deref_eq, derefE, if_true]
  cases derefP p (A.o n) with
  | none => rfl
  | some c => cases c <;> simp only [fldsO, AV.flds, finV] <;> (split <;> simp_all)
open Classical in
noncomputable def finO (k : Nat) : Option AO → Option AV
  | some (.row _ sz es) => if k = es.length ∧ AV.closeds es = true then some (.slice sz es) else none
  | _ => none
theorem fin_own (bx : Bool) (A : AState) (n k : Nat) : fin bx A (.own n k) = finO k (A.o n) := by
  simp only [fin]
  cases A.o n with
  | none => rfl
  | some y => cases y <;> simp only [finO] <;> (split <;> simp_all)
theorem fin_agg (bx : Bool) (A : AState) (fs : List AV) : fin bx A (.agg fs) = (fins bx A fs).map .agg := by simp only [fin]
theorem fin_func (bx : Bool) (A : AState) (f : FuncId) (fs : List AV) : fin bx A (.func f fs) = (fins bx A fs).map (.func f) := by simp only [fin]
theorem fin_int (bx : Bool) (A : AState) (k : IntKind) (n : Int) : fin bx A (.int k n) = some (.int k n) := by simp only [fin]
theorem fin_bool (bx : Bool) (A : AState) (n : Bool) : fin bx A (.bool n) = some (.bool n) := by simp only [fin]
theorem fin_str (bx : Bool) (A : AState) (n : ByteArray) : fin bx A (.str n) = some (.str n) := by simp only [fin]
theorem fin_nils (bx : Bool) (A : AState) (n : Nat) : fin bx A (.nils n) = some (.slice n []) := by simp only [fin]
theorem fin_slice (bx : Bool) (A : AState) (n : Nat) (es : List AV) : fin bx A (.slice n es) = if AV.closeds es = true then some (.slice n es) else none := by simp only [fin]
theorem fin_ref (bx : Bool) (A : AState) (x : AV) : fin bx A (.ref x) = if x.closed = true then some (.ref x) else none := by simp only [fin]
theorem fins_nil (bx : Bool) (A : AState) : fins bx A [] = some [] := by simp only [fins]
theorem fins_cons (bx : Bool) (A : AState) (x : AV) (xs : List AV) : fins bx A (x :: xs) = consO (fin bx A x) (fins bx A xs) := by
  simp only [fins]; cases fin bx A x <;> cases fins bx A xs <;> rfl
theorem closed_agg (fs : List AV) : (AV.agg fs).closed = AV.closeds fs := by simp only [AV.closed]
theorem closed_slice (n : Nat) (fs : List AV) : (AV.slice n fs).closed = AV.closeds fs := by simp only [AV.closed]
theorem closed_ref (x : AV) : (AV.ref x).closed = x.closed := by simp only [AV.closed]
theorem closed_int (k : IntKind) (n : Int) : (AV.int k n).closed = true := by simp only [AV.closed]
theorem closed_bool (n : Bool) : (AV.bool n).closed = true := by simp only [AV.closed]
theorem closed_str (n : ByteArray) : (AV.str n).closed = true := by simp only [AV.closed]
theorem closed_func (f : FuncId) (fs : List AV) : (AV.func f fs).closed = AV.closeds fs := by simp only [AV.closed]
theorem closeds_nil : AV.closeds [] = true := by simp only [AV.closeds]
theorem closeds_cons (x : AV) (xs : List AV) : AV.closeds (x :: xs) = (x.closed && AV.closeds xs) := by simp only [AV.closeds]

theorem bin_add (k : IntKind) (a b : Int) : aBin .add (.int k a) (.int k b) = some (.int k (k.wrap (a + b))) := by simp [aBin]
theorem bin_sub (k : IntKind) (a b : Int) : aBin .sub (.int k a) (.int k b) = some (.int k (k.wrap (a - b))) := by simp [aBin]
theorem bin_mul (k : IntKind) (a b : Int) : aBin .mul (.int k a) (.int k b) = some (.int k (k.wrap (a * b))) := by simp [aBin]
theorem bin_quo (k : IntKind) (a b : Int) : aBin .quo (.int k a) (.int k b) = if b = 0 then none else some (.int k (k.wrap (a.tdiv b))) := by simp [aBin]
theorem bin_rem (k : IntKind) (a b : Int) : aBin .rem (.int k a) (.int k b) = if b = 0 then none else some (.int k (a.tmod b)) := by simp [aBin]
theorem bin_and (k : IntKind) (a b : Int) : aBin .and (.int k a) (.int k b) = some (.int k (k.wrap ((BitVec.ofInt k.bits a &&& BitVec.ofInt k.bits b).toNat : Int))) := by simp [aBin]
theorem bin_or (k : IntKind) (a b : Int) : aBin .or (.int k a) (.int k b) = some (.int k (k.wrap ((BitVec.ofInt k.bits a ||| BitVec.ofInt k.bits b).toNat : Int))) := by simp [aBin]
theorem bin_xor (k : IntKind) (a b : Int) : aBin .xor (.int k a) (.int k b) = some (.int k (k.wrap ((BitVec.ofInt k.bits a ^^^ BitVec.ofInt k.bits b).toNat : Int))) := by simp [aBin]
theorem bin_andNot (k : IntKind) (a b : Int) : aBin .andNot (.int k a) (.int k b) = some (.int k (k.wrap ((BitVec.ofInt k.bits a &&& ~~~ BitVec.ofInt k.bits b).toNat : Int))) := by simp [aBin]
theorem bin_shl (k k' : IntKind) (a b : Int) : aBin .shl (.int k a) (.int k' b) = if 0 ≤ b then some (.int k (k.wrap (a * 2 ^ (min b.toNat k.bits)))) else none := by simp [aBin]
theorem bin_shr (k k' : IntKind) (a b : Int) : aBin .shr (.int k a) (.int k' b) = if 0 ≤ b then some (.int k (a.fdiv (2 ^ (min b.toNat k.bits)))) else none := by simp [aBin]
theorem bin_eql (k : IntKind) (a b : Int) : aBin .eql (.int k a) (.int k b) = some (.bool (a == b)) := by simp [aBin]
theorem bin_neq (k : IntKind) (a b : Int) : aBin .neq (.int k a) (.int k b) = some (.bool (a != b)) := by simp [aBin]
theorem bin_lss (k : IntKind) (a b : Int) : aBin .lss (.int k a) (.int k b) = some (.bool (decide (a < b))) := by simp [aBin]
theorem bin_leq (k : IntKind) (a b : Int) : aBin .leq (.int k a) (.int k b) = some (.bool (decide (a ≤ b))) := by simp [aBin]
theorem bin_gtr (k : IntKind) (a b : Int) : aBin .gtr (.int k a) (.int k b) = some (.bool (decide (b < a))) := by simp [aBin]
theorem bin_geq (k : IntKind) (a b : Int) : aBin .geq (.int k a) (.int k b) = some (.bool (decide (b ≤ a))) := by simp [aBin]

/-- States and operations. -/
theorem absR :
    (∀ ts os d v, (mkA ts os).put d v = mkA ((d, v) :: ts) os) ∧ (∀ ts os d v, (mkA ts os).putO (some d) v = mkA ((d, v) :: ts) os) ∧ (∀ (A : AState) v, A.putO none v = A) ∧
    (∀ ts os d x, (mkA ts os).setO d x = mkA ts ((d, x) :: os)) ∧ (∀ ts os k, (mkA ts os).t k = look ts k) ∧ (∀ ts os k, (mkA ts os).o k = lookO os k) ∧
    (∀ j v r k, look ((j, v) :: r) k = if k = j then v else look r k) ∧ (∀ j v r k, lookO ((j, v) :: r) k = if k = j then some v else lookO r k) ∧ (∀ k, lookO [] k = none) ∧
    (∀ A k, ev A (.t k) = A.t k) ∧ (∀ A x, ev A (.c x) = x) ∧ (∀ d rest A v, kont d rest A v = aops rest (A.putO d v)) ∧ (∀ v k, bindR (some v) k = k v) ∧ (∀ A, aops [] A = .done A) :=
  ⟨mkA_put, mkA_putO, mkA_putN, mkA_setO, mkA_t, mkA_o, look_cons, lookO_cons, lookO_nil, ev_t, ev_c, kont_eq, bindR_some, aops_nil⟩

theorem opsR :
    (∀ d rest A op, aops (⟨d, op, none⟩ :: rest) A = opR A d op rest) ∧ (∀ d rest A op t b, aops (⟨d, op, some (t, b)⟩ :: rest) A = gdR (A.t t) b d op rest A) ∧
    (∀ d rest A op, gdR (.bool true) true d op rest A = opR A d op rest) ∧ (∀ d rest A op, gdR (.bool false) false d op rest A = opR A d op rest) ∧
    (∀ d rest A op, gdR (.bool true) false d op rest A = aops rest (A.putO d .undef)) ∧ (∀ d rest A op, gdR (.bool false) true d op rest A = aops rest (A.putO d .undef)) ∧ (∀ d rest A op b, gdR .undef b d op rest A = aops rest (A.putO d .undef)) ∧
    (∀ d rest A x, opR A d (.mv x) rest = aops rest (A.putO d (ev A x))) ∧ (∀ d rest A c a b, opR A d (.pick c a b) rest = pickR A d a b rest (ev A c)) ∧
    (∀ A d a b rest, pickR A d a b rest (.bool true) = aops rest (A.putO d (ev A a))) ∧ (∀ A d a b rest, pickR A d a b rest (.bool false) = aops rest (A.putO d (ev A b))) ∧
    (∀ d rest A op x y, opR A d (.bin op x y) rest = bindR (aBin op (ev A x) (ev A y)) (kont d rest A)) ∧
    (∀ d rest A ty neg x y, opR A d (.eqv ty neg x y) rest = bindR ((eqE ty (ev A x) (ev A y)).map fun b => .bool (if neg then !b else b)) (kont d rest A)) ∧
    (∀ d rest A op x, opR A d (.un op x) rest = bindR (unE op (ev A x)) (kont d rest A)) ∧ (∀ b, unE .not (.bool b) = some (.bool !b)) ∧ (∀ k n, unE .neg (.int k n) = some (.int k (k.wrap (0 - n)))) ∧
    (∀ d rest A k x, opR A d (.conv k x) rest = bindR (convE k (ev A x)) (kont d rest A)) ∧ (∀ k k' n, convE k (.int k' n) = some (.int k (k.wrap n))) ∧
    (∀ d rest A s x, opR A d (.ld s x) rest = bindR (okLO s (derefE A (ev A x))) (kont d rest A)) ∧ (∀ d rest A f off x, opR A d (.fa f off x) rest = bindR (faE A f off (ev A x)) (kont d rest A)) ∧
    (∀ d rest A f off s x, opR A d (.fl f off s x) rest = bindR (flE f off s (ev A x).flds) (kont d rest A)) ∧ (∀ d rest A n esz x i, opR A d (.ia n esz x i) rest = bindR (iaI A n esz (ev A x) (ev A i)) (kont d rest A)) ∧
    (∀ d rest A esz x i, opR A d (.is esz x i) rest = bindR (isI A esz (ev A x) (ev A i)) (kont d rest A)) ∧ (∀ d rest A n esz s x i, opR A d (.ix n esz s x i) rest = bindR (ixI n esz s (ev A x) (ev A i)) (kont d rest A)) ∧
    (∀ d rest A x, opR A d (.len x) rest = bindR (lenE A (ev A x)) (kont d rest A)) ∧ (∀ d rest A n esz x, opR A d (.va n esz x) rest = bindR (vaE A n esz (ev A x)) (kont d rest A)) ∧
    (∀ d rest A zs ps, opR A d (.bld zs ps) rest = bindR ((setParts zs (ps.map fun p => (p.1, ev A p.2))).map .agg) (kont d rest A)) ∧ (∀ d rest A x i, opR A d (.ext x i) rest = bindR (extE i (ev A x)) (kont d rest A)) ∧ (∀ i fs, extE i (.tuple fs) = fs[i]?) ∧
    (∀ d rest A f caps, opR A d (.mk f caps) rest = bindR (if ((caps.map (ev A)).all fun y => y.isVal) = true then some (.func f (caps.map (ev A))) else none) (kont d rest A)) ∧
    (∀ rest A d z, opR A (some d) (.alloc z) rest = allocR A d z rest (A.o d)) ∧ (∀ A d z rest, allocR A d z rest none = aops rest ((A.setO d (.box z)).put d (.ptr d []))) ∧
    (∀ rest A d x, opR A (some d) (.box x) rest = boxR A d (ev A x) rest (A.o d)) ∧ (∀ A d z rest, boxR A d z rest none = boxR2 A d z rest z.isVal) ∧ (∀ A d z rest, boxR2 A d z rest true = aops rest ((A.setO d (.box z)).put d (.ptr d []))) ∧
    (∀ rest A s x v, opR A none (.st s x v) rest = stR A s (ev A v) rest (ev A x)) ∧ (∀ A s v rest n p, stR A s v rest (.ptr n p) = stR2 A s n p v rest (A.o n)) ∧ (∀ A s n p v rest b, stR2 A s n p v rest (some (.box b)) = stR3 A s n p b v rest (b.at p)) ∧
    (∀ d rest A f args, opR A d (.call f args) rest = .call f (args.map (ev A)) (fins true A (args.map (ev A))) (fins false A (args.map (ev A))) d rest A) ∧
    (∀ d rest A x args, opR A d (.callv x args) rest = callvR A d (args.map (ev A)) rest (ev A x)) ∧ (∀ A d args rest f caps, callvR A d args rest (.func f caps) = .call f (args ++ caps) (fins true A (args ++ caps)) (fins false A (args ++ caps)) d rest A) :=
  ⟨a_none, a_some, gd_tt, gd_ff, gd_tf, gd_ft, gd_u, o_mv, o_pick, fun _ _ _ _ _ => rfl, fun _ _ _ _ _ => rfl, o_bin, o_eqv, o_un, fun _ => rfl, fun _ _ => rfl, o_conv, fun _ _ _ => rfl, o_ld, o_fa, o_fl, o_ia, o_is, o_ix, o_len, o_va, o_bld, o_ext, fun _ _ => rfl, o_mk,
    o_alloc, fun _ _ _ _ => rfl, o_box, fun _ _ _ _ => rfl, fun _ _ _ _ => rfl, o_st, fun _ _ _ _ _ _ => rfl, fun _ _ _ _ _ _ _ => rfl, o_call, o_callv, fun _ _ _ _ _ _ => rfl⟩

theorem stR3_ok {A : AState} {s : Option Nat} {n : Nat} {p : List Nat} {b v old : AV} {rest : List G} (h1 : v.isVal = true) (h2 : okLd s v = true) (h3 : v.sh = old.sh) : stR3 A s n p b v rest (some old) = aops rest (A.setO n (.box (b.setAt p v))) := by
  simp only [stR3]; rw [if_pos ⟨h1, h2, h3⟩]

/-- What values are. -/
theorem valR :
    (∀ A x, derefE A (.ref x) = some x) ∧ (∀ A n p, derefE A (.ptr n p) = derefP p (A.o n)) ∧ (∀ p c, derefP p (some (.box c)) = c.at p) ∧ (∀ c : AV, c.at [] = some c) ∧ (∀ (c : AV) i p, c.at (i :: p) = atL i p c.flds) ∧
    (∀ i p fs, atL i p (some fs) = atO p fs[i]?) ∧ (∀ p f, atO p (some f) = f.at p) ∧ (∀ c v : AV, c.setAt [] v = v) ∧ (∀ (c : AV) i p v, c.setAt (i :: p) v = setL c i p v c.flds) ∧ (∀ c i p v fs, setL c i p v (some fs) = setO2 fs i p v fs[i]?) ∧
    (∀ fs i p v f, setO2 fs i p v (some f) = .agg (fs.set i (f.setAt p v))) ∧ (∀ fs, (AV.agg fs).flds = some fs) ∧ (∀ x : AV, fldsO (some x) = x.flds) ∧
    (∀ s x, okLO s (some x) = if okLd s x = true then some x else none) ∧
    (∀ A f off c, faE A f off (.ref c) = faR f off c.flds) ∧ (∀ A f off n p, faE A f off (.ptr n p) = faP n p f off (fldsO (derefP p (A.o n)))) ∧ (∀ f off fs, faR f off (some fs) = faO fs f off fs[f]?) ∧ (∀ fs f off v, faO fs f off (some v) = offR fs f off (.ref v)) ∧
    (∀ n p f off fs, faP n p f off (some fs) = offR fs f off (.ptr n (p ++ [f]))) ∧ (∀ A n esz x kk k, iaI A n esz x (.int kk k) = iaE A n esz k x) ∧ (∀ A n esz k c, iaE A n esz k (.ref c) = inB k n (iaR n esz k c.flds)) ∧
    (∀ A n esz k m p, iaE A n esz k (.ptr m p) = inB k n (iaP n esz m p k (fldsO (derefP p (A.o m))))) ∧ (∀ n esz k fs, iaR n esz k (some fs) = iaF n esz fs ((fs[k.toNat]?).map .ref)) ∧ (∀ n esz m p k fs, iaP n esz m p k (some fs) = iaF n esz fs (some (.ptr m (p ++ [k.toNat])))) ∧
    (∀ A esz x kk k, isI A esz x (.int kk k) = isE A esz k x) ∧ (∀ n esz s x kk k, ixI n esz s x (.int kk k) = ixE n esz s k x.flds) ∧ (∀ n esz s k fs, ixE n esz s k (some fs) = inB k n (iaF n esz fs (okLO s fs[k.toNat]?))) ∧
    (∀ A n esz m p, vaE A n esz (.ptr m p) = vaP n esz m p (fldsO (derefP p (A.o m)))) ∧ (∀ n esz m p fs, vaP n esz m p (some fs) = vaF n esz fs (.view m p esz 0 n)) ∧
    (∀ A sz es, lenE A (.slice sz es) = some (.int .i64 es.length)) ∧ (∀ A n, lenE A (.nils n) = some (.int .i64 0)) ∧ (∀ A n, lenE A (.c0 n) = some (.int .i64 0)) :=
  ⟨fun _ _ => rfl, fun _ _ _ => rfl, fun _ _ => rfl, at_nil, at_cons, fun _ _ _ => rfl, fun _ _ => rfl, setAt_nil, setAt_cons, fun _ _ _ _ _ => rfl, fun _ _ _ _ _ => rfl, fun _ => rfl, fun _ => rfl, fun _ _ => rfl, fun _ _ _ _ => rfl, fun _ _ _ _ _ => rfl, fun _ _ _ => rfl, fun _ _ _ _ => rfl,
    fun _ _ _ _ _ => rfl, fun _ _ _ _ _ _ => rfl, fun _ _ _ _ _ => rfl, fun _ _ _ _ _ _ => rfl, fun _ _ _ _ => rfl, fun _ _ _ _ _ _ => rfl, fun _ _ _ _ _ => rfl, fun _ _ _ _ _ _ => rfl, fun _ _ _ _ _ => rfl, fun _ _ _ _ _ => rfl, fun _ _ _ _ _ => rfl, fun _ _ _ => rfl, fun _ _ => rfl, fun _ _ => rfl⟩

/-- Values handed over, or back. -/
theorem finRs :
    (∀ A n p, fin true A (.ptr n p) = finR true A (derefP p (A.o n))) ∧ (∀ A x, finR true A (some x) = if x.closed = true then some (.ref x) else none) ∧ (∀ A n p sz lo k, fin true A (.view n p sz lo k) = finV sz lo k (fldsO (derefP p (A.o n)))) ∧
    (∀ A n p, fin false A (.ptr n p) = none) ∧ (∀ A n p sz lo k, fin false A (.view n p sz lo k) = none) ∧ (∀ x, consO none x = none) ∧ (∀ x, consO x none = none) ∧
    (∀ bx A n k, fin bx A (.own n k) = finO k (A.o n)) ∧ (∀ bx A fs, fin bx A (.agg fs) = (fins bx A fs).map .agg) ∧ (∀ bx A f fs, fin bx A (.func f fs) = (fins bx A fs).map (.func f)) ∧ (∀ bx A k n, fin bx A (.int k n) = some (.int k n)) ∧ (∀ bx A b, fin bx A (.bool b) = some (.bool b)) ∧
    (∀ bx A s, fin bx A (.str s) = some (.str s)) ∧ (∀ bx A n, fin bx A (.nils n) = some (.slice n [])) ∧ (∀ bx A n es, fin bx A (.slice n es) = if AV.closeds es = true then some (.slice n es) else none) ∧ (∀ bx A x, fin bx A (.ref x) = if x.closed = true then some (.ref x) else none) ∧
    (∀ bx A, fins bx A [] = some []) ∧ (∀ bx A x xs, fins bx A (x :: xs) = consO (fin bx A x) (fins bx A xs)) ∧ (∀ x xs, consO (some x) (some xs) = some (x :: xs)) ∧
    (∀ fs, (AV.agg fs).closed = AV.closeds fs) ∧ (∀ n fs, (AV.slice n fs).closed = AV.closeds fs) ∧ (∀ x, (AV.ref x).closed = x.closed) ∧ (∀ k n, (AV.int k n).closed = true) ∧ (∀ n, (AV.bool n).closed = true) ∧ (∀ n, (AV.str n).closed = true) ∧ (∀ f fs, (AV.func f fs).closed = AV.closeds fs) ∧
    AV.closeds [] = true ∧ (∀ x xs, AV.closeds (x :: xs) = (x.closed && AV.closeds xs)) ∧
    (∀ rs r A, retQ rs r .ret A = retR r (resAll A rs)) ∧ (∀ rs r A, retQ rs r .normal A = retR r (resAll A rs)) ∧ (∀ r xs, retR r (some xs) = (packR xs = r)) ∧ (∀ A, resAll A [] = some []) ∧ (∀ A t rs, resAll A (.tmp t :: rs) = consO (fin true A (A.t t)) (resAll A rs)) ∧
    (∀ A a s rs, resAll A (.cell a s :: rs) = consO (resO s A (derefE A (A.t a))) (resAll A rs)) ∧ (∀ s A x, resO s A (some x) = if okLd s x = true then fin true A x else none) ∧ (∀ x, packR [x] = x) ∧ (∀ x y xs, packR (x :: y :: xs) = .tuple (x :: y :: xs)) :=
  ⟨fin_ptr, fun _ _ => rfl, fin_view, fun _ _ _ => rfl, fun _ _ _ _ _ _ => rfl, fun _ => rfl, fun x => by cases x <;> rfl, fin_own, fin_agg, fin_func, fin_int, fin_bool, fin_str, fin_nils, fin_slice, fin_ref, fins_nil, fins_cons, fun _ _ => rfl, closed_agg, closed_slice, closed_ref, closed_int, closed_bool, closed_str, closed_func, closeds_nil, closeds_cons,
    retQ_ret, retQ_normal, fun _ _ => rfl, resAll_nil, resAll_tmp, resAll_cell, fun _ _ _ => rfl, fun _ => rfl, fun _ _ _ => rfl⟩

/-- Numbers. -/
theorem binR :
    (∀ k a b, aBin .add (.int k a) (.int k b) = some (.int k (k.wrap (a + b)))) ∧ (∀ k a b, aBin .sub (.int k a) (.int k b) = some (.int k (k.wrap (a - b)))) ∧ (∀ k a b, aBin .mul (.int k a) (.int k b) = some (.int k (k.wrap (a * b)))) ∧
    (∀ k a b, aBin .quo (.int k a) (.int k b) = if b = 0 then none else some (.int k (k.wrap (a.tdiv b)))) ∧ (∀ k a b, aBin .rem (.int k a) (.int k b) = if b = 0 then none else some (.int k (a.tmod b))) ∧
    (∀ k a b, aBin .and (.int k a) (.int k b) = some (.int k (k.wrap ((BitVec.ofInt k.bits a &&& BitVec.ofInt k.bits b).toNat : Int)))) ∧ (∀ k a b, aBin .or (.int k a) (.int k b) = some (.int k (k.wrap ((BitVec.ofInt k.bits a ||| BitVec.ofInt k.bits b).toNat : Int)))) ∧
    (∀ k a b, aBin .xor (.int k a) (.int k b) = some (.int k (k.wrap ((BitVec.ofInt k.bits a ^^^ BitVec.ofInt k.bits b).toNat : Int)))) ∧ (∀ k a b, aBin .andNot (.int k a) (.int k b) = some (.int k (k.wrap ((BitVec.ofInt k.bits a &&& ~~~ BitVec.ofInt k.bits b).toNat : Int)))) ∧
    (∀ k k' a b, aBin .shl (.int k a) (.int k' b) = if 0 ≤ b then some (.int k (k.wrap (a * 2 ^ (min b.toNat k.bits)))) else none) ∧ (∀ k k' a b, aBin .shr (.int k a) (.int k' b) = if 0 ≤ b then some (.int k (a.fdiv (2 ^ (min b.toNat k.bits)))) else none) ∧
    (∀ k a b, aBin .eql (.int k a) (.int k b) = some (.bool (a == b))) ∧ (∀ k a b, aBin .neq (.int k a) (.int k b) = some (.bool (a != b))) ∧ (∀ k a b, aBin .lss (.int k a) (.int k b) = some (.bool (decide (a < b)))) ∧ (∀ k a b, aBin .leq (.int k a) (.int k b) = some (.bool (decide (a ≤ b)))) ∧
    (∀ k a b, aBin .gtr (.int k a) (.int k b) = some (.bool (decide (b < a)))) ∧ (∀ k a b, aBin .geq (.int k a) (.int k b) = some (.bool (decide (b ≤ a)))) :=
  ⟨bin_add, bin_sub, bin_mul, bin_quo, bin_rem, bin_and, bin_or, bin_xor, bin_andNot, bin_shl, bin_shr, bin_eql, bin_neq, bin_lss, bin_leq, bin_gtr, bin_geq⟩

/-- Typed data. -/
theorem encR {α : Type} [Enc α] :
    (∀ bx A (x : α), fin bx A (enc x) = some (enc x)) ∧ (∀ x : α, (enc x).closed = true) ∧ (∀ x : α, (enc x).isVal = true) ∧ (∀ x : α, okLd none (enc x) = !(Enc.isA α)) ∧ (∀ n (x : α), okLd (some n) (enc x) = (Enc.isA α && Enc.sz α == n)) ∧
    (∀ x : α, (enc x).size = Enc.sz α) ∧ (∀ x : α, (enc x).sh = Enc.sh α) ∧ (∀ l : List α, AV.closeds (l.map enc) = true) ∧ (∀ l : List α, AV.sizes (l.map enc) = l.length * Enc.sz α) ∧ (∀ l : List α, AV.shs (l.map enc) = List.replicate l.length (Enc.sh α)) ∧ (∀ p (x : α), (enc x).only p = true) :=
  ⟨e_fin, e_closed, e_isVal, e_okN, e_okS, e_size, e_sh, closeds_map, sizes_map, shs_map, e_only⟩

end Go.Abs

/-
  THE ABSTRACT LAYER, 18: typed data looked into: lengths, elements, fields. Over any program.
-/
namespace Go.Abs
open Go Go.RowKit
open Enc (enc)

section
variable {α : Type} [Enc α]

theorem lenE_enc (A : AState) (l : List α) : lenE A (enc l) = some (.int .i64 l.length) := by simp [e_list, lenE]

theorem isE_enc {A : AState} (esz : Nat) {k : Int} {l : List α} (h : 0 ≤ k ∧ k.toNat < l.length) (hs : Enc.sz α = esz) : isE A esz k (enc l) = some (.ref (enc l[k.toNat])) := by
  simp only [e_list, isE, hs, List.length_map, true_and]
  rw [if_pos ⟨h.1, by omega⟩]
  simp [h.2]
theorem isE_nat {A : AState} (esz : Nat) {k : Nat} {l : List α} (h : k < l.length) (hs : Enc.sz α = esz) : isE A esz k (enc l) = some (.ref (enc l[k])) := by
  have := isE_enc (A := A) esz (k := (k : Int)) (l := l) ⟨by omega, by simpa using h⟩ hs
  simpa using this

theorem Arr.lt {α : Type} {n : Nat} (x : Arr n α) {k : Nat} (h : k < n) : k < x.l.length := by rw [x.h]; exact h
/-- The element of an array. -/
def Arr.at {n : Nat} (x : Arr n α) (k : Nat) (d : α) : α := x.l.getD k d

theorem iaR_enc {n : Nat} (esz : Nat) {k : Int} {x : Arr n α} (h : 0 ≤ k ∧ k.toNat < n) (hs : Enc.sz α = esz) : inB k n (iaR n esz k (some (x.l.map enc))) = some (.ref (enc (x.l[k.toNat]'(x.lt h.2)))) := by
  have hl := x.lt h.2
  simp only [inB, iaR, iaF, evenly_map n esz x.l x.h hs, if_true]
  rw [if_pos ⟨h.1, by omega⟩]
  simp [hl]
theorem iaP_enc {n m : Nat} (esz : Nat) {p : List Nat} {k : Int} {x : Arr n α} (h : 0 ≤ k ∧ k.toNat < n) (hs : Enc.sz α = esz) : inB k n (iaP n esz m p k (some (x.l.map enc))) = some (.ptr m (p ++ [k.toNat])) := by
  simp only [inB, iaP, iaF, evenly_map n esz x.l x.h hs, if_true]
  rw [if_pos ⟨h.1, by omega⟩]
theorem inB_nat {n : Nat} (esz : Nat) {k : Nat} (x : Arr n α) {y : Option AV} (h : k < n) (hs : Enc.sz α = esz) : inB (k : Int) n (iaF n esz (x.l.map enc) y) = y := by
  simp only [inB, iaF, evenly_map n esz x.l x.h hs, if_true]
  rw [if_pos ⟨by omega, by omega⟩]
theorem inB_int {n : Nat} (esz : Nat) {k : Int} (x : Arr n α) {y : Option AV} (h : 0 ≤ k ∧ k < n) (hs : Enc.sz α = esz) : inB k n (iaF n esz (x.l.map enc) y) = y := by
  simp only [inB, iaF, evenly_map n esz x.l x.h hs, if_true]
  rw [if_pos h]
theorem get_arr {n k : Nat} (x : Arr n α) (h : k < n) : (x.l.map enc)[k]? = some (enc (x.l[k]'(x.lt h))) := by
  simp [x.lt h]
theorem ixE_enc {n : Nat} (esz : Nat) {s : Option Nat} {k : Int} {x : Arr n α} (h : 0 ≤ k ∧ k.toNat < n) (hs : Enc.sz α = esz) : ixE n esz s k (some (x.l.map enc)) = okLO s (some (enc (x.l[k.toNat]'(x.lt h.2)))) := by
  have hl := x.lt h.2
  simp only [ixE, inB, iaF, evenly_map n esz x.l x.h hs, if_true]
  rw [if_pos ⟨h.1, by omega⟩]
  simp [hl]
theorem atL_enc {n k : Nat} {p : List Nat} {x : Arr n α} (h : k < n) : atL k p (some (x.l.map enc)) = (enc (x.l[k]'(x.lt h))).at p := by
  have hl := x.lt h
  simp [atL, atO, hl]

/-- Loading a typed value. -/
theorem okLO_one {x : α} (h : Enc.isA α = false) : okLO none (some (enc x)) = some (enc x) := by simp [okLO, okL, e_okN, h]
theorem okLO_agg {n : Nat} {x : α} (h : Enc.isA α = true) (hs : Enc.sz α = n) : okLO (some n) (some (enc x)) = some (enc x) := by simp [okLO, okL, e_okS, h, hs]
theorem okLO_int (k : IntKind) (n : Int) : okLO none (some (.int k n)) = some (.int k n) := by simp [okLO, okL, okLd, AV.isAgg]
theorem okLO_bool (b : Bool) : okLO none (some (.bool b)) = some (.bool b) := by simp [okLO, okL, okLd, AV.isAgg]
theorem okLO_slice (z : Nat) (es : List AV) : okLO none (some (.slice z es)) = some (.slice z es) := by simp [okLO, okL, okLd, AV.isAgg]
theorem okLO_func (f : FuncId) (es : List AV) : okLO none (some (.func f es)) = some (.func f es) := by simp [okLO, okL, okLd, AV.isAgg]
end

mutual
/-- What every value in memory keeps to: whole numbers within their kind, slices no longer than a slice can be. -/
def AV.wf : AV → Prop
  | .agg fs => AV.wfs fs
  | .int k n => k.min ≤ n ∧ n ≤ k.max
  | .str s => s.size ≤ maxLen
  | .slice _ es => es.length ≤ maxLen ∧ AV.wfs es
  | .ref c => c.wf
  | .func _ caps => AV.wfs caps
  | .iface _ v => v.wf
  | _ => True
def AV.wfs : List AV → Prop
  | [] => True
  | x :: xs => x.wf ∧ AV.wfs xs
end

mutual
theorem rc_wf {w : World} {D : Dom} {E : Env} : ∀ (x : AV) (cs : List Value), rc w D E x cs → x.wf
  | .agg fs, cs, h => by simp only [rc, AV.wf] at *; exact rcs_wf fs cs h
  | .int k n, cs, h => by simp only [rc, AV.wf] at *; exact h.2
  | .str s, cs, h => by simp only [rc, AV.wf] at *; exact h.2
  | .slice sz es, cs, h => by
    simp only [rc, AV.wf] at *
    obtain ⟨a, cap, _, h1, h2, h3, _⟩ := h
    refine ⟨by omega, ?_⟩
    rcases h3 with rfl | ⟨b, off, cs', _, _, h4⟩
    · simp [AV.wfs]
    · exact rcs_wf es cs' h4
  | .ref c, cs, h => by simp only [rc, AV.wf] at *; obtain ⟨b, off, cs', _, _, h⟩ := h; exact rc_wf c cs' h
  | .func f caps, cs, h => by simp only [rc, AV.wf] at *; obtain ⟨vs, _, h⟩ := h; exact rvs_wf caps vs h
  | .iface t v, cs, h => by simp only [rc, AV.wf] at *; obtain ⟨u, cs', _, _, h⟩ := h; exact rc_wf v cs' h
  | .bool _, _, _ | .nilp, _, _ | .nilf, _, _ | .nili, _, _ | .raw _, _, _ | .nils _, _, _ | .c0 _, _, _ | .ptr _ _, _, _ | .own _ _, _, _ | .view _ _ _ _ _, _, _ | .undef, _, _ | .top, _, _ | .tuple _, _, _ => by simp [AV.wf]
theorem rcs_wf {w : World} {D : Dom} {E : Env} : ∀ (xs : List AV) (cs : List Value), rcs w D E xs cs → AV.wfs xs
  | [], _, _ => by simp [AV.wfs]
  | x :: xs, cs, h => by
    simp only [rcs, AV.wfs] at *
    obtain ⟨c1, c2, _, h1, h2⟩ := h
    exact ⟨rc_wf x c1 h1, rcs_wf xs c2 h2⟩
theorem rvs_wf {w : World} {D : Dom} {E : Env} : ∀ (xs : List AV) (vs : List Value), rvs w D E xs vs → AV.wfs xs
  | [], _, _ => by simp [AV.wfs]
  | x :: xs, vs, h => by
    simp only [rvs, AV.wfs] at *
    obtain ⟨v, rest, cs, _, _, h1, h2⟩ := h
    exact ⟨rc_wf x cs h1, rvs_wf xs rest h2⟩
end

theorem wfs_map {α : Type} [Enc α] (l : List α) : AV.wfs (l.map enc) ↔ ∀ x ∈ l, (enc x : AV).wf := by
  induction l with
  | nil => simp [AV.wfs]
  | cons x l ih => simp [AV.wfs, ih]
theorem wf_list {α : Type} [Enc α] (l : List α) : (enc l : AV).wf ↔ l.length ≤ maxLen ∧ ∀ x ∈ l, (enc x : AV).wf := by
  simp only [e_list, AV.wf, List.length_map, wfs_map]
theorem wf_arr {α : Type} [Enc α] {n : Nat} (x : Arr n α) : (enc x : AV).wf ↔ ∀ y ∈ x.l, (enc y : AV).wf := by
  change (AV.agg (x.l.map enc)).wf ↔ _
  simp only [AV.wf, wfs_map]
theorem wf_int (n : Int) : (enc n : AV).wf ↔ -9223372036854775808 ≤ n ∧ n ≤ 9223372036854775807 := by
  change IntKind.i64.min ≤ n ∧ n ≤ IntKind.i64.max ↔ _
  simp [IntKind.min, IntKind.max, IntKind.bits, IntKind.signed]

/-- The arguments may be taken to be such as memory holds. -/
theorem Ctr.wf {P : Program} {f : FuncId} {args : List AV} {r : AV} (hc : callable P f = true) (h : AV.wfs args → Ctr P f args r) : Ctr P f args r :=
  ⟨hc, fun w D vs h1 h2 => (h (rvs_wf _ _ h2)).2 w D vs h1 h2⟩

theorem Ctr.mk' {P : Program} {f : FuncId} {fn : Func} {x : AC} {rs : List RV} {args : List AV} {r : AV} (hf : P.funcs[f]? = some fn) (hcall : callable P f = true) (hc : (fn.body.bind (cCode P fn.ntmps)) = some x)
    (hrs : cRes P fn.results.toList = some rs) (hn : args.length ≤ fn.ntmps) (h : AV.wfs args → ∀ (w : World) (D : Dom) (E : Env), AW ⟨P, w, D, fn.ntmps, ownE E, E, noY, none⟩ x (retQ rs r) (mkA (idx 0 args) [])) : Ctr P f args r :=
  Ctr.wf hcall fun hw => Ctr.mk hf hcall hc hrs hn (h hw)

/-- Results. -/
theorem ret_one (r x : AV) (h : x = r) : retR r (some [x]) := by simp [retR, packR, h]
theorem retR_enc {α : Type} [Enc α] (r : AV) (A : AState) (t : Nat) (x : α) (h : A.t t = enc x) (hr : enc x = r) : retR r (resAll A [.tmp t]) := by
  subst hr
  simp only [resAll_tmp, resAll_nil, h, e_fin, consO, retR, packR]

theorem useR {α : Type} [Enc α] :
    (∀ A (l : List α), lenE A (enc l) = some (.int .i64 l.length)) ∧ (∀ n (x : Arr n α), (enc x).flds = some (x.l.map enc)) :=
  ⟨lenE_enc, fun _ _ => rfl⟩
theorem okR : (∀ k n, okLO none (some (.int k n)) = some (.int k n)) ∧ (∀ b, okLO none (some (.bool b)) = some (.bool b)) ∧ (∀ z es, okLO none (some (.slice z es)) = some (.slice z es)) ∧ (∀ f es, okLO none (some (.func f es)) = some (.func f es)) :=
  ⟨okLO_int, okLO_bool, okLO_slice, okLO_func⟩

end Go.Abs

/-
  THE ABSTRACT LAYER, 19: slices made and appended to; a nil slice taken as one of the frame's own. Over any program.
-/
namespace Go.Abs
open Go Go.RowKit
open Enc (enc)

def nilE (neg : Bool) : AV → Option AV
  | .nils _ => some (.bool (!neg))
  | .slice _ es => if es.isEmpty then none else some (.bool neg)
  | .view _ _ _ _ _ => some (.bool neg)
  | _ => none
def lenTE : AV → Option AV
  | .str s => some (.int .i64 s.size)
  | _ => none
open Classical in
noncomputable def slV (n : Nat) (p : List Nat) (sz l0 k esz : Nat) (lo hi mx : Option AV) : Option (List AV) → Option AV
  | some fs => if sz = esz then sliceV n p sz l0 k fs.length lo hi mx else none
  | none => none
noncomputable def slE (A : AState) (esz : Nat) (lo hi mx : Option AV) : AV → Option AV
  | .slice sz es => if sz = esz then sliceOf sz es lo hi mx else none
  | .nils sz => if sz = esz then sliceOf sz [] lo hi mx else none
  | .c0 sz => if sz = esz then sliceOf sz [] lo hi mx else none
  | .view n p sz l0 k => slV n p sz l0 k esz lo hi mx (fldsO (derefP p (A.o n)))
  | _ => none
open Classical in
noncomputable def bsE (esz : Nat) : Option (List AV) → Option AV
  | some es => if (es.all fun e => e.size == esz) = true ∧ AV.closeds es = true then some (.slice esz es) else none
  | none => none

open Classical in
noncomputable def appR3 (A : AState) (d : Option Nat) (e esz bytes n l T sz' : Nat) (es : List AV) (rest : List G) : AV → Res
  | .slice sz ys => if okApp e esz bytes l sz ys T sz' es then aops rest ((A.setO n (.row e esz (es ++ ys))).putO d (.own n (es.length + ys.length))) else .fail
  | _ => .fail
noncomputable def appR2 (A : AState) (d : Option Nat) (e esz bytes n l : Nat) (x : AV) (rest : List G) : Option AO → Res
  | some (.row T sz' es) => appR3 A d e esz bytes n l T sz' es rest x
  | _ => .fail
noncomputable def appR (A : AState) (d : Option Nat) (e esz bytes : Nat) (z x : AV) (rest : List G) : AV → Res
  | .own n l => appR2 A d e esz bytes n l x rest (A.o n)
  | s => appO A d esz bytes z s (srcL A esz s) (srcL A esz x) (aops rest)

section
variable (d : Option Nat) (rest : List G) (A : AState)
noncomputable def nilR (neg : Bool) (x : AV) : Bool → Res
  | true => .any (fun m => m < 2) (fun m => aops rest (A.putO d (.bool (m == 0))))
  | false => bindR (nilE neg x) (kont d rest A)
theorem o_nilS (neg : Bool) (x : AOpd) : opR A d (.nilS neg x) rest = nilR d rest A neg (ev A x) (und (ev A x)) := by
  simp only [opR, gStep, pureOp]
  cases und (ev A x)
  · simp only [Bool.false_eq_true, if_false, nilR, nilE]; cases ev A x <;> rfl
  · rfl
theorem o_lenT (x : AOpd) : opR A d (.lenT x) rest = bindR (lenTE (ev A x)) (kont d rest A) := by
  simp only [opR, gStep, pureOp]; cases ev A x <;> rfl
theorem o_sl (esz : Nat) (x : AOpd) (lo hi mx : Option AOpd) : opR A d (.sl esz x lo hi mx) rest = bindR (slE A esz (lo.map (ev A)) (hi.map (ev A)) (mx.map (ev A)) (ev A x)) (kont d rest A) := by
  simp only [opR, gStep, pureOp]
  cases ev A x <;> try rfl
  rename_i n p sz l0 k
  simp only [slE, deref_eq, derefE]
  cases derefP p (A.o n) with
  | none => rfl
  | some c => cases c <;> simp only [fldsO, AV.flds, slV] <;> (first | rfl | (split <;> rfl))
theorem o_bs (esz : Nat) (ps : List AOpd) : opR A d (.bs esz ps) rest = bindR (bsE esz (fins false A (ps.map (ev A)))) (kont d rest A) := by
  simp only [opR, gStep, pureOp]; cases fins false A (ps.map (ev A)) <;> simp only [bsE] <;> rfl
theorem o_app (e esz bytes : Nat) (z : AV) (s x : AOpd) : opR A d (.app e esz bytes z s x) rest = appR A d e esz bytes z (ev A x) rest (ev A s) := by
  simp only [opR, gStep]
  generalize ev A s = s'
  generalize ev A x = x'
  cases s' <;> simp only [appR]
  rename_i n l
  cases x' <;> simp only <;> generalize A.o n = z <;> (cases z with
    | none => rfl
    | some y => cases y <;> simp only [appR2, appR3])
end

theorem opsR2 :
    (∀ d rest A neg x, opR A d (.nilS neg x) rest = nilR d rest A neg (ev A x) (und (ev A x))) ∧ (∀ d rest A neg x, nilR d rest A neg x false = bindR (nilE neg x) (kont d rest A)) ∧ (∀ z, und (.nils z) = false) ∧ (∀ n p sz lo k, und (.view n p sz lo k) = false) ∧ (∀ d rest A x, opR A d (.lenT x) rest = bindR (lenTE (ev A x)) (kont d rest A)) ∧
    (∀ d rest A esz x lo hi mx, opR A d (.sl esz x lo hi mx) rest = bindR (slE A esz (lo.map (ev A)) (hi.map (ev A)) (mx.map (ev A)) (ev A x)) (kont d rest A)) ∧
    (∀ d rest A esz ps, opR A d (.bs esz ps) rest = bindR (bsE esz (fins false A (ps.map (ev A)))) (kont d rest A)) ∧ (∀ d rest A e esz bytes z s x, opR A d (.app e esz bytes z s x) rest = appR A d e esz bytes z (ev A x) rest (ev A s)) ∧
    (∀ A d e esz bytes z x rest n l, appR A d e esz bytes z x rest (.own n l) = appR2 A d e esz bytes n l x rest (A.o n)) ∧ (∀ A d e esz bytes n l x rest T sz es, appR2 A d e esz bytes n l x rest (some (.row T sz es)) = appR3 A d e esz bytes n l T sz es rest x) ∧
    (∀ neg z, nilE neg (.nils z) = some (.bool (!neg))) :=
  ⟨o_nilS, fun _ _ _ _ _ => rfl, fun _ => rfl, fun _ _ _ _ _ => rfl, o_lenT, o_sl, o_bs, o_app, fun _ _ _ _ _ _ _ _ _ _ => rfl, fun _ _ _ _ _ _ _ _ _ _ _ _ => rfl, fun _ _ => rfl⟩

theorem onlys_append (p : Nat → Bool) (xs ys : List AV) : AV.onlys p (xs ++ ys) = (AV.onlys p xs && AV.onlys p ys) := by
  induction xs with
  | nil => simp [AV.onlys]
  | cons x xs ih => simp [AV.onlys, ih, Bool.and_assoc]

section
variable {α : Type} [Enc α]
theorem appR3_enc {A : AState} {d : Option Nat} (e : Nat) (esz bytes n : Nat) {l : Nat} {es ys : List α} {rest : List G} (hl : l = es.length) (hs : Enc.sz α = esz) (hy : ys ≠ []) (h1 : es.length + ys.length ≤ maxLen) (h2 : (es.length + ys.length) * bytes ≤ 140737488355328) :
    appR3 A d e esz bytes n l e esz (es.map enc) rest (enc ys) = aops rest ((A.setO n (.row e esz ((es ++ ys).map enc))).putO d (.own n (es ++ ys).length)) := by
  simp only [e_list, appR3]
  rw [if_pos ⟨by simpa using hl, hs, rfl, rfl, by simpa using hy, by simpa using h1, by simpa using h2⟩]
  simp
theorem bsE_enc (esz : Nat) {ys : List α} (hs : Enc.sz α = esz) : bsE esz (some (ys.map enc)) = some (enc ys) := by
  have h1 : ((ys.map enc).all fun e : AV => e.size == esz) = true := by
    simp only [List.all_eq_true, List.mem_map]
    rintro x ⟨y, _, rfl⟩
    simp [Enc.size, hs]
  simp only [bsE, e_list]
  rw [if_pos ⟨h1, closeds_map ys⟩, hs]
theorem bsE_one (esz : Nat) (y : α) (hs : Enc.sz α = esz) : bsE esz (some [enc y]) = some (enc [y]) := bsE_enc (ys := [y]) esz hs
theorem finO_enc (sz : Nat) {T k : Nat} {es : List α} (hk : k = es.length) (hs : Enc.sz α = sz) : finO k (some (.row T sz (es.map enc))) = some (enc es) := by
  simp only [finO, List.length_map]
  rw [if_pos ⟨hk, closeds_map es⟩, e_list, hs]
theorem onlys_map (p : Nat → Bool) (l : List α) : AV.onlys p (l.map enc) = true := by
  induction l with
  | nil => rfl
  | cons x l ih => simp only [List.map_cons, AV.onlys, e_only, ih, Bool.and_self]
theorem lenE_own (A : AState) (n k T sz : Nat) (es : List α) (ho : A.o n = some (.row T sz (es.map enc))) (hk : k = es.length) : lenE A (.own n k) = some (.int .i64 es.length) := by
  simp only [lenE, ho, List.length_map, hk, if_true]
end

/-- Slices of whole numbers. -/
theorem intsR :
    (∀ n : Int, bsE 1 (some [.int .i64 n]) = some (enc [n])) ∧ (∀ (T : Nat) (es : List Int), finO es.length (some (.row T 1 (es.map enc))) = some (enc es)) :=
  ⟨fun n => bsE_one 1 n rfl, fun _ _ => finO_enc 1 rfl rfl⟩

/-- A nil slice is the frame's own, as long as nothing else is called so. -/
theorem Sub.adopt {A : AState} {d n T sz z : Nat} (hd : A.t d = .nils z) (hn : A.o n = none) (hlt : n < 1000000) : Sub A ((A.setO n (.row T sz [])).put d (.own n 0)) := by
  rintro c a w ⟨D, E, h⟩
  have hE : E n = none := by have := h.obj n; rw [hn] at this; exact this
  have hl : Later w D E w D (fun m => if m = n then some (.rw none 0) else E m) := by
    refine ⟨fun _ _ h => h, fun _ _ _ _ h => h, fun m b sh he => ?_, fun m blk l he => ?_⟩
    · have : m ≠ n := fun e => by rw [e, hE] at he; cases he
      simp only [if_neg this]; exact he
    · have : m ≠ n := fun e => by rw [e, hE] at he; cases he
      exact ⟨blk, l, by simp only [if_neg this]; exact he, Nat.le_refl _, fun _ => rfl⟩
  refine ⟨D, fun m => if m = n then some (.rw none 0) else E m, h.sz, h.defs, fun t => ?_, h.unch, h.dom, h.live, fun m => ?_, fun m m' e e' b h1 h2 h3 h4 => ?_, fun m e hm hfx => ?_, h.nam, h.up, h.yok⟩
  · simp only [AState.put, AState.setO]
    by_cases ht : t = d
    · subst ht
      simp only [if_true]
      have hv := h.tm t
      rw [hd] at hv
      obtain ⟨cs, q1, q2⟩ := hv
      simp only [rc] at q2
      subst q2
      refine ⟨[.slice none 0 0], by simpa [isPack, AV.isAgg] using q1, ?_⟩
      simp only [rc, if_true]
      exact ⟨none, 0, rfl, Nat.le_refl _, ⟨_, _, _, rfl⟩, fun _ => trivial⟩
    · simp only [if_neg ht]
      exact rv.later hl (h.tm t)
  · simp only [AState.put, AState.setO]
    by_cases hm : m = n
    · subst hm
      simp only [if_true, objOk]
      exact ⟨none, by simp, by simp, trivial⟩
    · simp only [if_neg hm]
      exact (h.obj m).later hl (by simp only [if_neg hm]) fun _ _ _ _ => ⟨rfl, fun _ ho => ho⟩
  · by_cases hm : m = n <;> by_cases hm' : m' = n
    · rw [hm, hm']
    · simp only [if_pos hm, Option.some.injEq] at h1; subst h1; simp [Ent.blk] at h3
    · simp only [if_pos hm', Option.some.injEq] at h2; subst h2; simp [Ent.blk] at h4
    · simp only [if_neg hm] at h1; simp only [if_neg hm'] at h2; exact h.sep m m' e e' b h1 h2 h3 h4
  · have hmn : m ≠ n := fun e => by rw [e, h.fresh (.inr hlt)] at hm; cases hm
    simp only [if_neg hmn]
    exact h.hist m e hm hfx

theorem Sub.adoptL {ts : List (Nat × AV)} {os : List (Nat × AO)} (d n T sz z : Nat) (hd : look ts d = .nils z) (hn : lookO os n = none) {B : AState} (h : Sub (mkA ((d, .own n 0) :: ts) ((n, .row T sz []) :: os)) B) (hlt : n < 1000000 := by decide) : Sub (mkA ts os) B :=
  ((Sub.adopt (A := mkA ts os) (T := T) (sz := sz) hd hn hlt).trans (by rw [mkA_setO, mkA_put]; exact Sub.refl _)).trans h

/-- The number at a place of an array. -/
def Arr.g {n : Nat} (x : Arr n Int) (k : Nat) : Int := x.l.getD k 0
theorem Arr.g_eq {n k : Nat} (x : Arr n Int) (h : k < n) : x.l[k]'(x.lt h) = x.g k := by simp [Arr.g, x.lt h]
theorem atL_g {n k : Nat} {p : List Nat} (x : Arr n Int) (h : k < n) : atL k p (some (x.l.map enc)) = (AV.int .i64 (x.g k)).at p := by
  rw [atL_enc h, x.g_eq h]; rfl
theorem get_g {n k : Nat} (x : Arr n Int) (h : k < n) : (x.l.map (enc (α := Int)))[k]? = some (AV.int .i64 (x.g k)) := by
  rw [get_arr x h, x.g_eq h]; rfl
theorem wf_g {n k : Nat} (x : Arr n Int) (hw : (enc x : AV).wf) (h : k < n) : -9223372036854775808 ≤ x.g k ∧ x.g k ≤ 9223372036854775807 := by
  rw [← x.g_eq h]
  exact (wf_int _).1 ((wf_arr x).1 hw _ (List.getElem_mem _))

theorem okdR : (∀ k n, okLd none (.int k n) = true) ∧ (∀ b, okLd none (.bool b) = true) ∧ (∀ z es, okLd none (.slice z es) = true) ∧ (∀ f es, okLd none (.func f es) = true) ∧ (∀ z, okLd none (.nils z) = true) ∧ (∀ n k, okLd none (.own n k) = true) :=
  ⟨fun _ _ => rfl, fun _ => rfl, fun _ _ => rfl, fun _ _ => rfl, fun _ => rfl, fun _ _ => rfl⟩
theorem all_true {p : Nat → Bool} {n : Nat} (h : ∀ k, k < n → p k = true) : (List.range n).all p = true := by
  simp only [List.all_eq_true, List.mem_range]; exact h
theorem all_false {p : Nat → Bool} {n : Nat} (i : Nat) (hi : i < n) (h : p i = false) : (List.range n).all p = false := by
  simp only [List.all_eq_false, List.mem_range]; exact ⟨i, hi, by simp [h]⟩

/-- All of these rules, and what of the house's own they are used with. -/
theorem bR : (type_of% @absR) ∧ (type_of% @opsR) ∧ (type_of% @opsR2) ∧ (type_of% @intsR) ∧ (type_of% @okdR) ∧ (type_of% @valR) ∧ (type_of% @finRs) ∧ (type_of% @binR) ∧ (∀ n : Int, (enc n : AV) = .int .i64 n) ∧ (∀ n : Bool, (enc n : AV) = .bool n) ∧
    (∀ {α β : Type} (f : α → β) (x : α) (xs : List α), List.map f (x :: xs) = f x :: List.map f xs) ∧ (∀ {α β : Type} (f : α → β), List.map f [] = []) ∧ (∀ {α : Type} (xs : List α), [] ++ xs = xs) ∧ (∀ n : Nat, (n : Int).toNat = n) ∧ (∀ {α β : Type} (f : α → β) (x : α), Option.map f (some x) = some (f x)) ∧
    (∀ n : Nat, 0 ≤ (n : Int)) ∧ ((!true) = false) ∧ ((!false) = true) ∧ ((false = true) = False) ∧ ((true = false) = False) :=
  ⟨@absR, @opsR, @opsR2, @intsR, @okdR, @valR, @finRs, @binR, e_int, e_bool, fun _ _ _ => rfl, fun _ => rfl, fun _ => rfl, fun _ => rfl, fun _ _ => rfl, fun n => Int.natCast_nonneg n, rfl, rfl, by simp, by simp⟩

end Go.Abs

/-
  SMALL FUNCTIONS, EACH BY ITS CONTRACT: In, Has, Mod, At, IndexFunc and ContainsFunc over whole numbers.
-/
namespace Go.Proofs.Ytkjkbpgdpnapfaa
open Go Go.Abs
open Go.Abs.Enc (enc)

theorem F94 (n lo hi : Int) : Ctr Try.prog 94 [enc n, enc lo, enc hi] (enc (decide (lo ≤ n) && decide (n ≤ hi))) := by
  refine Ctr.mk' Try.func94 ca94 cc94 cr94 (Nat.le_of_ble_eq_true rfl) (fun hwf W0 D0 E1 => ?_)
  simp only [c94, r94, idx, Nat.zero_add, Nat.reduceAdd]
  refine AW.seq (AW.reg cd94_0 fun K hK => ?_)
  simp only [g94_0, bR, Nat.reduceEqDiff, reduceIte, Int.reduceBNe, Int.reduceBEq]
  refine .done (hK _ ?_); clear hK K; simp only [thenQ, blockQ]
  refine AW.seq (AW.reg cd94_1 fun K hK => ?_)
  simp only [g94_1, bR, Nat.reduceEqDiff, reduceIte, Int.reduceBNe, Int.reduceBEq]
  refine .guard (fun h => ?_) (fun h => ?_)
  · simp only [bR, Nat.reduceEqDiff, reduceIte, Int.reduceBNe, Int.reduceBEq, h]
    refine .done (hK _ ?_); clear hK K; simp only [thenQ, blockQ]
    refine AW.ret ?_
    simp only [blockQ, thenQ, bR, Nat.reduceEqDiff, reduceIte, Int.reduceBNe, Int.reduceBEq]
    simp_all
  · simp only [bR, Nat.reduceEqDiff, reduceIte, Int.reduceBNe, Int.reduceBEq, h]
    refine .done (hK _ ?_); clear hK K; simp only [thenQ, blockQ]
    refine AW.ret ?_
    simp only [blockQ, thenQ, bR, Nat.reduceEqDiff, reduceIte, Int.reduceBNe, Int.reduceBEq]
    simp at h
    simp; omega

theorem F27 (l : List Int) (n : Int) : Ctr Try.prog 27 [enc l, enc n] (enc (decide (n ∈ l))) := by
  refine Ctr.mk' Try.func27 ca27 cc27 cr27 (Nat.le_of_ble_eq_true rfl) (fun hwf W0 D0 E1 => ?_)
  simp only [c27, r27, idx, Nat.zero_add, Nat.reduceAdd]
  have hlen : l.length ≤ maxLen := ((wf_list l).1 hwf.1).1
  simp only [maxLen] at hlen
  refine AW.seq (AW.reg cd27_0 fun K hK => ?_)
  simp only [g27_0, bR, Nat.reduceEqDiff, reduceIte, Int.reduceBNe, Int.reduceBEq]
  refine .done (hK _ ?_); clear hK K; simp only [thenQ, blockQ]
  refine AW.seq ?_
  refine AW.seq (AW.reg cd27_1 fun K hK => ?_)
  simp only [g27_1, bR, Nat.reduceEqDiff, reduceIte, Int.reduceBNe, Int.reduceBEq]
  refine .done (hK _ ?_); clear hK K; simp only [thenQ, blockQ]
  refine AW.block (AW.loop (fun i : Nat => mkA [(0, enc l), (1, .int .i64 n), (4, .bool false), (5, .int .i64 i)] []) (fun i => i ≤ l.length ∧ n ∉ l.take i) (fun i => l.length - i) 0 ⟨Nat.zero_le _, by simp⟩ ?_ (fun i hi => ?_))
  · refine Sub.of_lists ?_ ?_ ?_ ?_ <;> simp [subT, subO, onlyT, onlyO, isIn, look_cons, lookO_cons, lookO_nil, AV.only, AV.onlys, AO.only, onlys_map, onlys_append, e_only, e_int, e_bool]
  · refine AW.seq (AW.seq ?_)
    refine AW.reg cd27_2 fun K hK => ?_
    simp only [g27_2, bR, Nat.reduceEqDiff, reduceIte, Int.reduceBNe, Int.reduceBEq]
    simp only [useR, bR, Nat.reduceEqDiff, reduceIte, Int.reduceBNe, Int.reduceBEq]
    refine .done (hK _ ?_); clear hK K; simp only [thenQ, blockQ]
    refine AW.ite ?_
    simp only [condQ, bR, Nat.reduceEqDiff, reduceIte, Int.reduceBNe, Int.reduceBEq]
    refine ⟨fun h => ?_, fun h => ?_⟩
    · have hlt : i < l.length := by simpa using h
      refine AW.skip ?_; simp only [thenQ, blockQ, reduceIte, Nat.reduceEqDiff]
      refine AW.seq (AW.block ?_)
      refine AW.seq (AW.reg cd27_3 fun K hK => ?_)
      simp only [g27_3, bR, Nat.reduceEqDiff, reduceIte, Int.reduceBNe, Int.reduceBEq]
      simp only [isE_nat 1 hlt rfl, okR, bR, Nat.reduceEqDiff, reduceIte, Int.reduceBNe, Int.reduceBEq]
      refine .done (hK _ ?_); clear hK K; simp only [thenQ, blockQ]
      refine AW.ite ?_
      simp only [condQ, bR, Nat.reduceEqDiff, reduceIte, Int.reduceBNe, Int.reduceBEq]
      refine ⟨fun h => ?_, fun h => ?_⟩
      · refine AW.seq (AW.reg cd27_4 fun K hK => ?_)
        simp only [g27_4, bR, Nat.reduceEqDiff, reduceIte, Int.reduceBNe, Int.reduceBEq]
        refine .done (hK _ ?_); clear hK K; simp only [thenQ, blockQ]
        refine AW.ret ?_
        simp only [blockQ, thenQ, bR, Nat.reduceEqDiff, reduceIte, Int.reduceBNe, Int.reduceBEq]
        simp at h
        simp [← h]
      · refine AW.skip ?_; simp only [thenQ, blockQ, reduceIte, Nat.reduceEqDiff]
        refine AW.reg cd27_5 fun K hK => ?_
        simp only [g27_5, bR, Nat.reduceEqDiff, reduceIte, Int.reduceBNe, Int.reduceBEq]
        refine .done (hK _ ?_); clear hK K; simp only [thenQ, blockQ]
        refine ⟨i + 1, ⟨by omega, fun hm => ?_⟩, by omega, ?_⟩
        · rw [List.take_succ_eq_append_getElem hlt] at hm
          rcases List.mem_append.1 hm with hm | hm
          · exact hi.2 hm
          · simp at h hm; exact h hm.symm
        · rw [wrap_id _ (by omega) (by omega)]
          refine Sub.of_lists ?_ ?_ ?_ ?_ <;> simp [subT, subO, onlyT, onlyO, isIn, look_cons, lookO_cons, lookO_nil, AV.only, AV.onlys, AO.only, onlys_map, onlys_append, e_only, e_int, e_bool]
    · have hge : i = l.length := by simp at h; omega
      refine AW.exit ?_; simp only [thenQ, blockQ, reduceIte, Nat.reduceEqDiff]
      refine AW.seq (AW.reg cd27_6 fun K hK => ?_)
      simp only [g27_6, bR, Nat.reduceEqDiff, reduceIte, Int.reduceBNe, Int.reduceBEq]
      refine .done (hK _ ?_); clear hK K; simp only [thenQ, blockQ]
      refine AW.ret ?_
      simp only [blockQ, thenQ, bR, Nat.reduceEqDiff, reduceIte, Int.reduceBNe, Int.reduceBEq]
      simp [hge] at hi
      simp [hi]

theorem tmod_wrap (n d : Int) (h0 : 0 < d) (h1 : d ≤ 4611686018427387904) : IntKind.i64.wrap (n.tmod d + d) = n.tmod d + d ∧ (n.tmod d + d).tmod d = n % d := by
  have a1 : n.tmod d < d := Int.tmod_lt_of_pos n h0
  have a2 : -d < n.tmod d := by
    have := Int.tmod_lt_of_pos (-n) h0
    rw [Int.neg_tmod] at this
    omega
  refine ⟨wrap_id _ (by omega) (by omega), ?_⟩
  rw [Int.tmod_eq_emod_of_nonneg (by omega), Int.add_emod_right]
  rw [Int.tmod_def, Int.sub_mul_emod_self_left]

theorem F23 (n d : Int) (h0 : 0 < d) (h1 : d ≤ 4611686018427387904) : Ctr Try.prog 23 [enc n, enc d] (enc (n % d)) := by
  refine Ctr.mk' Try.func23 ca23 cc23 cr23 (Nat.le_of_ble_eq_true rfl) (fun hwf W0 D0 E1 => ?_)
  simp only [c23, r23, idx, Nat.zero_add, Nat.reduceAdd]
  have hd : ¬ d = 0 := by omega
  refine AW.seq (AW.reg cd23_0 fun K hK => ?_)
  simp only [g23_0, bR, Nat.reduceEqDiff, reduceIte, Int.reduceBNe, Int.reduceBEq]
  refine .done (hK _ ?_); clear hK K; simp only [thenQ, blockQ]
  refine AW.seq (AW.reg cd23_1 fun K hK => ?_)
  simp only [g23_1, bR, Nat.reduceEqDiff, reduceIte, Int.reduceBNe, Int.reduceBEq]
  simp only [hd, bR, Nat.reduceEqDiff, reduceIte, Int.reduceBNe, Int.reduceBEq]
  refine .done (hK _ ?_); clear hK K; simp only [thenQ, blockQ]
  refine AW.ret ?_
  simp only [blockQ, thenQ, bR, Nat.reduceEqDiff, reduceIte, Int.reduceBNe, Int.reduceBEq]
  rw [(tmod_wrap n d h0 h1).1, (tmod_wrap n d h0 h1).2]

/-- The text's number at a place, the text going round. -/
def at' (c : List Int) (i : Int) : Int := if c = [] then 0 else c.getD (i % c.length).toNat 0

theorem F25 (c : List Int) (i : Int) (hc : c.length ≤ 4611686018427387904) : Ctr Try.prog 25 [enc c, enc i] (enc (at' c i)) := by
  refine Ctr.mk' Try.func25 ca25 cc25 cr25 (Nat.le_of_ble_eq_true rfl) (fun hwf W0 D0 E1 => ?_)
  simp only [c25, r25, idx, Nat.zero_add, Nat.reduceAdd]
  refine AW.seq (AW.reg cd25_0 fun K hK => ?_)
  simp only [g25_0, bR, Nat.reduceEqDiff, reduceIte, Int.reduceBNe, Int.reduceBEq]
  refine .done (hK _ ?_); clear hK K; simp only [thenQ, blockQ]
  refine AW.seq (AW.seq ?_)
  refine AW.reg cd25_1 fun K hK => ?_
  simp only [g25_1, bR, Nat.reduceEqDiff, reduceIte, Int.reduceBNe, Int.reduceBEq]
  simp only [useR, bR, Nat.reduceEqDiff, reduceIte, Int.reduceBNe, Int.reduceBEq]
  refine .done (hK _ ?_); clear hK K; simp only [thenQ, blockQ]
  refine AW.ite ?_
  simp only [condQ, bR, Nat.reduceEqDiff, reduceIte, Int.reduceBNe, Int.reduceBEq]
  refine ⟨fun h => ?_, fun h => ?_⟩
  · refine AW.seq (AW.reg cd25_2 fun K hK => ?_)
    simp only [g25_2, bR, Nat.reduceEqDiff, reduceIte, Int.reduceBNe, Int.reduceBEq]
    refine .done (hK _ ?_); clear hK K; simp only [thenQ, blockQ]
    refine AW.ret ?_
    simp only [blockQ, thenQ, bR, Nat.reduceEqDiff, reduceIte, Int.reduceBNe, Int.reduceBEq]
    simp at h
    simp [at', h]
  · simp at h
    have hpos : 0 < c.length := List.length_pos_iff.2 h
    have k1 : 0 ≤ i % (c.length : Int) := Int.emod_nonneg _ (by omega)
    have k2 : i % (c.length : Int) < c.length := Int.emod_lt_of_pos _ (by omega)
    have k3 : (i % (c.length : Int)).toNat < c.length := by omega
    refine AW.skip ?_; simp only [thenQ, blockQ, reduceIte, Nat.reduceEqDiff]
    refine AW.seq (AW.reg cd25_3 fun K hK => ?_)
    simp only [g25_3, bR, Nat.reduceEqDiff, reduceIte, Int.reduceBNe, Int.reduceBEq]
    simp only [useR, List.map_cons, List.map_nil, e_fin, bR, Nat.reduceEqDiff, reduceIte, Int.reduceBNe, Int.reduceBEq]
    refine .flat _ (F23 i c.length (by omega) (by omega)) rfl ?_
    simp only [bR, Nat.reduceEqDiff, reduceIte, Int.reduceBNe, Int.reduceBEq]
    simp only [isE_enc 1 ⟨k1, k3⟩ rfl, okR, bR, Nat.reduceEqDiff, reduceIte, Int.reduceBNe, Int.reduceBEq]
    refine .done (hK _ ?_); clear hK K; simp only [thenQ, blockQ]
    refine AW.ret ?_
    simp only [blockQ, thenQ, bR, Nat.reduceEqDiff, reduceIte, Int.reduceBNe, Int.reduceBEq]
    simp [at', h, List.getD_eq_getElem?_getD, k3]

end Go.Proofs.Ytkjkbpgdpnapfaa

/-
  CHECKS OF THE REFERENCE THAT LOOK AT AN ARRAY'S NUMBERS ONE BY ONE, EACH BY ITS CONTRACT: CheckMark, CheckReading, CheckWear, Sharp.
-/
namespace Go.Proofs.Ytkjkbpgdpnapfaa
open Go Go.Abs
open Go.Abs.Enc (enc)

def inR (lo hi n : Int) : Bool := decide (lo ≤ n) && decide (n ≤ hi)
def band (a b : Int) : Int := IntKind.i64.wrap ((BitVec.ofInt IntKind.i64.bits a &&& BitVec.ofInt IntKind.i64.bits b).toNat : Int)
def shl (a : Int) (k : Nat) : Int := IntKind.i64.wrap (a * 2 ^ min k IntKind.i64.bits)

theorem F42 (m : Arr 6 Int) : Ctr Try.prog 42 [enc m] (enc (if (List.range 6).all (fun i => inR 0 4 (m.g i)) then (0 : Int) else 10)) := by
  refine Ctr.mk' Try.func42 ca42 cc42 cr42 (Nat.le_of_ble_eq_true rfl) (fun hwf W0 D0 E1 => ?_)
  simp only [c42, r42, idx, Nat.zero_add, Nat.reduceAdd]
  refine AW.seq (AW.reg cd42_0 fun K hK => ?_)
  simp only [g42_0, bR, Nat.reduceEqDiff, reduceIte, Int.reduceBNe, Int.reduceBEq]
  refine .done (hK _ ?_); clear hK K; simp only [thenQ, blockQ]
  refine AW.seq ?_
  refine AW.seq (AW.reg cd42_1 fun K hK => ?_)
  simp only [g42_1, bR, Nat.reduceEqDiff, reduceIte, Int.reduceBNe, Int.reduceBEq]
  refine .done (hK _ ?_); clear hK K; simp only [thenQ, blockQ]
  refine AW.block (AW.loop (fun i : Nat => mkA [(1, .ptr 1 []), (2, .int .i64 0), (3, .int .i64 i)] [(1, .box (enc m))]) (fun j => j ≤ 6 ∧ ∀ i, i < j → inR 0 4 (m.g i) = true) (fun i => 6 - i) 0 ⟨by omega, fun k h => by omega⟩ ?_ (fun i hi => ?_))
  · refine Sub.of_lists ?_ ?_ ?_ ?_ <;> simp [subT, subO, onlyT, onlyO, isIn, look_cons, lookO_cons, lookO_nil, AV.only, AV.onlys, AO.only, onlys_map, onlys_append, e_only, e_int, e_bool]
  · refine AW.seq (AW.seq ?_)
    refine AW.reg cd42_2 fun K hK => ?_
    simp only [g42_2, bR, Nat.reduceEqDiff, reduceIte, Int.reduceBNe, Int.reduceBEq]
    refine .done (hK _ ?_); clear hK K; simp only [thenQ, blockQ]
    refine AW.ite ?_
    simp only [condQ, bR, Nat.reduceEqDiff, reduceIte, Int.reduceBNe, Int.reduceBEq]
    refine ⟨fun h => ?_, fun h => ?_⟩
    · have hlt : i < 6 := by simp at h; omega
      refine AW.skip ?_; simp only [thenQ, blockQ, reduceIte, Nat.reduceEqDiff]
      refine AW.seq (AW.block ?_)
      refine AW.seq (AW.reg cd42_3 fun K hK => ?_)
      simp only [g42_3, bR, Nat.reduceEqDiff, reduceIte, Int.reduceBNe, Int.reduceBEq]
      simp only [useR, inB_nat 1 m hlt rfl, atL_g m hlt, okR, bR, Nat.reduceEqDiff, reduceIte, Int.reduceBNe, Int.reduceBEq]
      refine .flat _ (F94 _ 0 4) rfl ?_
      simp only [bR, Nat.reduceEqDiff, reduceIte, Int.reduceBNe, Int.reduceBEq]
      refine .done (hK _ ?_); clear hK K; simp only [thenQ, blockQ]
      refine AW.ite ?_
      simp only [condQ, bR, Nat.reduceEqDiff, reduceIte, Int.reduceBNe, Int.reduceBEq]
      refine ⟨fun h => ?_, fun h => ?_⟩
      · refine AW.seq (AW.reg cd42_4 fun K hK => ?_)
        simp only [g42_4, bR, Nat.reduceEqDiff, reduceIte, Int.reduceBNe, Int.reduceBEq]
        refine .done (hK _ ?_); clear hK K; simp only [thenQ, blockQ]
        refine AW.ret ?_
        simp only [blockQ, thenQ, bR, Nat.reduceEqDiff, reduceIte, Int.reduceBNe, Int.reduceBEq]
        rw [all_false i hlt]
        · simp
        · simp at h; simp [inR]; omega
      · refine AW.skip ?_; simp only [thenQ, blockQ, reduceIte, Nat.reduceEqDiff]
        refine AW.reg cd42_5 fun K hK => ?_
        simp only [g42_5, bR, Nat.reduceEqDiff, reduceIte, Int.reduceBNe, Int.reduceBEq]
        refine .done (hK _ ?_); clear hK K; simp only [thenQ, blockQ]
        refine ⟨i + 1, ⟨by omega, fun k hk => ?_⟩, by omega, ?_⟩
        · by_cases hk' : k = i
          · subst hk'
            simpa [inR] using h
          · exact hi.2 k (by omega)
        · rw [wrap_id _ (by omega) (by omega)]
          refine Sub.of_lists ?_ ?_ ?_ ?_ <;> simp [subT, subO, onlyT, onlyO, isIn, look_cons, lookO_cons, lookO_nil, AV.only, AV.onlys, AO.only, onlys_map, onlys_append, e_only, e_int, e_bool]
    · have hge : i = 6 := by simp at h; omega
      subst hge
      refine AW.exit ?_; simp only [thenQ, blockQ, reduceIte, Nat.reduceEqDiff]
      refine AW.seq (AW.reg cd42_6 fun K hK => ?_)
      simp only [g42_6, bR, Nat.reduceEqDiff, reduceIte, Int.reduceBNe, Int.reduceBEq]
      refine .done (hK _ ?_); clear hK K; simp only [thenQ, blockQ]
      refine AW.ret ?_
      simp only [blockQ, thenQ, bR, Nat.reduceEqDiff, reduceIte, Int.reduceBNe, Int.reduceBEq]
      rw [all_true hi.2]
      simp

theorem F46 (m : Arr 6 Int) : Ctr Try.prog 46 [enc m] (enc (if (List.range 6).all (fun i => inR 1 31 (m.g i)) then (0 : Int) else 12)) := by
  refine Ctr.mk' Try.func46 ca46 cc46 cr46 (Nat.le_of_ble_eq_true rfl) (fun hwf W0 D0 E1 => ?_)
  simp only [c46, r46, idx, Nat.zero_add, Nat.reduceAdd]
  refine AW.seq (AW.reg cd46_0 fun K hK => ?_)
  simp only [g46_0, bR, Nat.reduceEqDiff, reduceIte, Int.reduceBNe, Int.reduceBEq]
  refine .done (hK _ ?_); clear hK K; simp only [thenQ, blockQ]
  refine AW.seq ?_
  refine AW.seq (AW.reg cd46_1 fun K hK => ?_)
  simp only [g46_1, bR, Nat.reduceEqDiff, reduceIte, Int.reduceBNe, Int.reduceBEq]
  refine .done (hK _ ?_); clear hK K; simp only [thenQ, blockQ]
  refine AW.block (AW.loop (fun i : Nat => mkA [(1, .ptr 1 []), (2, .int .i64 0), (3, .int .i64 i)] [(1, .box (enc m))]) (fun j => j ≤ 6 ∧ ∀ i, i < j → inR 1 31 (m.g i) = true) (fun i => 6 - i) 0 ⟨by omega, fun k h => by omega⟩ ?_ (fun i hi => ?_))
  · refine Sub.of_lists ?_ ?_ ?_ ?_ <;> simp [subT, subO, onlyT, onlyO, isIn, look_cons, lookO_cons, lookO_nil, AV.only, AV.onlys, AO.only, onlys_map, onlys_append, e_only, e_int, e_bool]
  · refine AW.seq (AW.seq ?_)
    refine AW.reg cd46_2 fun K hK => ?_
    simp only [g46_2, bR, Nat.reduceEqDiff, reduceIte, Int.reduceBNe, Int.reduceBEq]
    refine .done (hK _ ?_); clear hK K; simp only [thenQ, blockQ]
    refine AW.ite ?_
    simp only [condQ, bR, Nat.reduceEqDiff, reduceIte, Int.reduceBNe, Int.reduceBEq]
    refine ⟨fun h => ?_, fun h => ?_⟩
    · have hlt : i < 6 := by simp at h; omega
      refine AW.skip ?_; simp only [thenQ, blockQ, reduceIte, Nat.reduceEqDiff]
      refine AW.seq (AW.block ?_)
      refine AW.seq (AW.reg cd46_3 fun K hK => ?_)
      simp only [g46_3, bR, Nat.reduceEqDiff, reduceIte, Int.reduceBNe, Int.reduceBEq]
      simp only [useR, inB_nat 1 m hlt rfl, atL_g m hlt, okR, bR, Nat.reduceEqDiff, reduceIte, Int.reduceBNe, Int.reduceBEq]
      refine .flat _ (F94 _ 1 31) rfl ?_
      simp only [bR, Nat.reduceEqDiff, reduceIte, Int.reduceBNe, Int.reduceBEq]
      refine .done (hK _ ?_); clear hK K; simp only [thenQ, blockQ]
      refine AW.ite ?_
      simp only [condQ, bR, Nat.reduceEqDiff, reduceIte, Int.reduceBNe, Int.reduceBEq]
      refine ⟨fun h => ?_, fun h => ?_⟩
      · refine AW.seq (AW.reg cd46_4 fun K hK => ?_)
        simp only [g46_4, bR, Nat.reduceEqDiff, reduceIte, Int.reduceBNe, Int.reduceBEq]
        refine .done (hK _ ?_); clear hK K; simp only [thenQ, blockQ]
        refine AW.ret ?_
        simp only [blockQ, thenQ, bR, Nat.reduceEqDiff, reduceIte, Int.reduceBNe, Int.reduceBEq]
        rw [all_false i hlt]
        · simp
        · simp at h; simp [inR]; omega
      · refine AW.skip ?_; simp only [thenQ, blockQ, reduceIte, Nat.reduceEqDiff]
        refine AW.reg cd46_5 fun K hK => ?_
        simp only [g46_5, bR, Nat.reduceEqDiff, reduceIte, Int.reduceBNe, Int.reduceBEq]
        refine .done (hK _ ?_); clear hK K; simp only [thenQ, blockQ]
        refine ⟨i + 1, ⟨by omega, fun k hk => ?_⟩, by omega, ?_⟩
        · by_cases hk' : k = i
          · subst hk'
            simpa [inR] using h
          · exact hi.2 k (by omega)
        · rw [wrap_id _ (by omega) (by omega)]
          refine Sub.of_lists ?_ ?_ ?_ ?_ <;> simp [subT, subO, onlyT, onlyO, isIn, look_cons, lookO_cons, lookO_nil, AV.only, AV.onlys, AO.only, onlys_map, onlys_append, e_only, e_int, e_bool]
    · have hge : i = 6 := by simp at h; omega
      subst hge
      refine AW.exit ?_; simp only [thenQ, blockQ, reduceIte, Nat.reduceEqDiff]
      refine AW.seq (AW.reg cd46_6 fun K hK => ?_)
      simp only [g46_6, bR, Nat.reduceEqDiff, reduceIte, Int.reduceBNe, Int.reduceBEq]
      refine .done (hK _ ?_); clear hK K; simp only [thenQ, blockQ]
      refine AW.ret ?_
      simp only [blockQ, thenQ, bR, Nat.reduceEqDiff, reduceIte, Int.reduceBNe, Int.reduceBEq]
      rw [all_true hi.2]
      simp

theorem F100 (m : Arr 6 Int) : Ctr Try.prog 100 [enc m] (enc (if (List.range 6).all (fun i => (band (m.g i) (IntKind.i64.wrap (m.g i - 1)) == 0)) then (true) else false)) := by
  refine Ctr.mk' Try.func100 ca100 cc100 cr100 (Nat.le_of_ble_eq_true rfl) (fun hwf W0 D0 E1 => ?_)
  simp only [c100, r100, idx, Nat.zero_add, Nat.reduceAdd]
  refine AW.seq (AW.reg cd100_0 fun K hK => ?_)
  simp only [g100_0, bR, Nat.reduceEqDiff, reduceIte, Int.reduceBNe, Int.reduceBEq]
  refine .done (hK _ ?_); clear hK K; simp only [thenQ, blockQ]
  refine AW.seq ?_
  refine AW.seq (AW.reg cd100_1 fun K hK => ?_)
  simp only [g100_1, bR, Nat.reduceEqDiff, reduceIte, Int.reduceBNe, Int.reduceBEq]
  refine .done (hK _ ?_); clear hK K; simp only [thenQ, blockQ]
  refine AW.block (AW.loop (fun i : Nat => mkA [(1, .ptr 1 []), (2, .bool false), (3, .int .i64 i)] [(1, .box (enc m))]) (fun j => j ≤ 6 ∧ ∀ i, i < j → (band (m.g i) (IntKind.i64.wrap (m.g i - 1)) == 0) = true) (fun i => 6 - i) 0 ⟨by omega, fun k h => by omega⟩ ?_ (fun i hi => ?_))
  · refine Sub.of_lists ?_ ?_ ?_ ?_ <;> simp [subT, subO, onlyT, onlyO, isIn, look_cons, lookO_cons, lookO_nil, AV.only, AV.onlys, AO.only, onlys_map, onlys_append, e_only, e_int, e_bool]
  · refine AW.seq (AW.seq ?_)
    refine AW.reg cd100_2 fun K hK => ?_
    simp only [g100_2, bR, Nat.reduceEqDiff, reduceIte, Int.reduceBNe, Int.reduceBEq]
    refine .done (hK _ ?_); clear hK K; simp only [thenQ, blockQ]
    refine AW.ite ?_
    simp only [condQ, bR, Nat.reduceEqDiff, reduceIte, Int.reduceBNe, Int.reduceBEq]
    refine ⟨fun h => ?_, fun h => ?_⟩
    · have hlt : i < 6 := by simp at h; omega
      refine AW.skip ?_; simp only [thenQ, blockQ, reduceIte, Nat.reduceEqDiff]
      refine AW.seq (AW.block ?_)
      refine AW.seq (AW.reg cd100_3 fun K hK => ?_)
      simp only [g100_3, bR, Nat.reduceEqDiff, reduceIte, Int.reduceBNe, Int.reduceBEq]
      simp only [useR, inB_nat 1 m hlt rfl, atL_g m hlt, okR, bR, Nat.reduceEqDiff, reduceIte, Int.reduceBNe, Int.reduceBEq]
      refine .done (hK _ ?_); clear hK K; simp only [thenQ, blockQ]
      refine AW.ite ?_
      simp only [condQ, bR, Nat.reduceEqDiff, reduceIte, Int.reduceBNe, Int.reduceBEq]
      refine ⟨fun h => ?_, fun h => ?_⟩
      · refine AW.seq (AW.reg cd100_4 fun K hK => ?_)
        simp only [g100_4, bR, Nat.reduceEqDiff, reduceIte, Int.reduceBNe, Int.reduceBEq]
        refine .done (hK _ ?_); clear hK K; simp only [thenQ, blockQ]
        refine AW.ret ?_
        simp only [blockQ, thenQ, bR, Nat.reduceEqDiff, reduceIte, Int.reduceBNe, Int.reduceBEq]
        rw [all_false i hlt]
        · simp
        · simpa [band] using h
      · refine AW.skip ?_; simp only [thenQ, blockQ, reduceIte, Nat.reduceEqDiff]
        refine AW.reg cd100_5 fun K hK => ?_
        simp only [g100_5, bR, Nat.reduceEqDiff, reduceIte, Int.reduceBNe, Int.reduceBEq]
        refine .done (hK _ ?_); clear hK K; simp only [thenQ, blockQ]
        refine ⟨i + 1, ⟨by omega, fun k hk => ?_⟩, by omega, ?_⟩
        · by_cases hk' : k = i
          · subst hk'
            simpa [band] using h
          · exact hi.2 k (by omega)
        · rw [wrap_id _ (by omega) (by omega)]
          refine Sub.of_lists ?_ ?_ ?_ ?_ <;> simp [subT, subO, onlyT, onlyO, isIn, look_cons, lookO_cons, lookO_nil, AV.only, AV.onlys, AO.only, onlys_map, onlys_append, e_only, e_int, e_bool]
    · have hge : i = 6 := by simp at h; omega
      subst hge
      refine AW.exit ?_; simp only [thenQ, blockQ, reduceIte, Nat.reduceEqDiff]
      refine AW.seq (AW.reg cd100_6 fun K hK => ?_)
      simp only [g100_6, bR, Nat.reduceEqDiff, reduceIte, Int.reduceBNe, Int.reduceBEq]
      refine .done (hK _ ?_); clear hK K; simp only [thenQ, blockQ]
      refine AW.ret ?_
      simp only [blockQ, thenQ, bR, Nat.reduceEqDiff, reduceIte, Int.reduceBNe, Int.reduceBEq]
      rw [all_true hi.2]
      simp

end Go.Proofs.Ytkjkbpgdpnapfaa

/-
  SMALL FUNCTIONS OF THE REFERENCE, EACH BY ITS CONTRACT: Members, CheckWear, Same.
-/
namespace Go.Proofs.Ytkjkbpgdpnapfaa
open Go Go.Abs
open Go.Abs.Enc (enc)

/-- Whether a bit is set. -/
def bit (w : Int) (k : Nat) : Bool := band w (shl 1 k) != 0
def members (w : Int) : Nat → List Int
  | 0 => []
  | k + 1 => members w k ++ if bit w k then [(k : Int)] else []

theorem members_le (w : Int) : ∀ k, (members w k).length ≤ k
  | 0 => Nat.le_refl _
  | k + 1 => by
    have := members_le w k
    simp only [members, List.length_append]
    split <;> simp <;> omega

theorem F33 (w : Int) : Ctr Try.prog 33 [enc w] (enc (members w 5)) := by
  refine Ctr.mk' Try.func33 ca33 cc33 cr33 (Nat.le_of_ble_eq_true rfl) (fun hwf W0 D0 E1 => ?_)
  simp only [c33, r33, idx, Nat.zero_add, Nat.reduceAdd]
  refine AW.seq (AW.reg cd33_0 fun K hK => ?_)
  simp only [g33_0, bR, Nat.reduceEqDiff, reduceIte, Int.reduceBNe, Int.reduceBEq]
  refine .done (hK _ ?_); clear hK K; simp only [thenQ, blockQ]
  refine AW.seq (AW.reg cd33_1 fun K hK => ?_)
  simp only [g33_1, bR, Nat.reduceEqDiff, reduceIte, Int.reduceBNe, Int.reduceBEq]
  refine .done (hK _ ?_); clear hK K; simp only [thenQ, blockQ]
  refine AW.seq (AW.seq ?_)
  refine AW.reg cd33_2 fun K hK => ?_
  simp only [g33_2, bR, Nat.reduceEqDiff, reduceIte, Int.reduceBNe, Int.reduceBEq]
  refine .done (hK _ ?_); clear hK K; simp only [thenQ, blockQ]
  refine AW.block (AW.loop (fun i : Nat => mkA [(0, .int .i64 w), (2, .nils 1), (3, .own 3 (members w i).length), (4, .int .i64 i)] [(3, .row 3 1 ((members w i).map enc))]) (fun i => i ≤ 5) (fun i => 5 - i) 0 (by omega) ?_ (fun i hi => ?_))
  · refine Sub.adoptL 3 3 3 1 1 ?_ ?_ ?_
    · simp only [absR, Nat.reduceEqDiff, reduceIte]
    · simp only [absR]
    · simp only [members, List.map_nil, List.length_nil]
      refine Sub.of_lists ?_ ?_ ?_ ?_ <;> simp [subT, subO, onlyT, onlyO, isIn, look_cons, lookO_cons, lookO_nil, AV.only, AV.onlys, AO.only, onlys_map, onlys_append, e_only, e_int, e_bool]
  · refine AW.seq (AW.seq ?_)
    refine AW.reg cd33_3 fun K hK => ?_
    simp only [g33_3, bR, Nat.reduceEqDiff, reduceIte, Int.reduceBNe, Int.reduceBEq]
    refine .done (hK _ ?_); clear hK K; simp only [thenQ, blockQ]
    refine AW.ite ?_
    simp only [condQ, bR, Nat.reduceEqDiff, reduceIte, Int.reduceBNe, Int.reduceBEq]
    refine ⟨fun h => ?_, fun h => ?_⟩
    · have hlt : i < 5 := by simp at h; omega
      have hml := members_le w i
      refine AW.skip ?_; simp only [thenQ, blockQ, reduceIte, Nat.reduceEqDiff]
      refine AW.seq (AW.block ?_)
      refine AW.seq (AW.reg cd33_4 fun K hK => ?_)
      simp only [g33_4, bR, Nat.reduceEqDiff, reduceIte, Int.reduceBNe, Int.reduceBEq]
      refine .done (hK _ ?_); clear hK K; simp only [thenQ, blockQ]
      refine AW.ite ?_
      simp only [condQ, bR, Nat.reduceEqDiff, reduceIte, Int.reduceBNe, Int.reduceBEq]
      refine ⟨fun h => ?_, fun h => ?_⟩
      · have hb : bit w i = true := h
        refine AW.reg cd33_5 fun K hK => ?_
        simp only [g33_5, bR, Nat.reduceEqDiff, reduceIte, Int.reduceBNe, Int.reduceBEq]
        rw [appR3_enc 3 1 8 3 rfl rfl (by simp) (by simp [maxLen]; omega) (by simp; omega)]
        simp only [bR, Nat.reduceEqDiff, reduceIte, Int.reduceBNe, Int.reduceBEq]
        refine .done (hK _ ?_); clear hK K; simp only [thenQ, blockQ]
        refine AW.reg cd33_6 fun K hK => ?_
        simp only [g33_6, bR, Nat.reduceEqDiff, reduceIte, Int.reduceBNe, Int.reduceBEq]
        refine .done (hK _ ?_); clear hK K; simp only [thenQ, blockQ]
        refine ⟨i + 1, by omega, by omega, ?_⟩
        rw [wrap_id _ (by omega) (by omega)]
        simp only [members, hb, reduceIte]
        refine Sub.of_lists ?_ ?_ ?_ ?_ <;> simp [subT, subO, onlyT, onlyO, isIn, look_cons, lookO_cons, lookO_nil, AV.only, AV.onlys, AO.only, onlys_map, onlys_append, e_only, e_int, e_bool]
      · have hb : bit w i = false := h
        refine AW.skip ?_; simp only [thenQ, blockQ, reduceIte, Nat.reduceEqDiff]
        refine AW.reg cd33_6 fun K hK => ?_
        simp only [g33_6, bR, Nat.reduceEqDiff, reduceIte, Int.reduceBNe, Int.reduceBEq]
        refine .done (hK _ ?_); clear hK K; simp only [thenQ, blockQ]
        refine ⟨i + 1, by omega, by omega, ?_⟩
        rw [wrap_id _ (by omega) (by omega)]
        simp only [members, hb, reduceIte, Bool.false_eq_true, List.append_nil]
        refine Sub.of_lists ?_ ?_ ?_ ?_ <;> simp [subT, subO, onlyT, onlyO, isIn, look_cons, lookO_cons, lookO_nil, AV.only, AV.onlys, AO.only, onlys_map, onlys_append, e_only, e_int, e_bool]
    · have hge : i = 5 := by simp at h; omega
      subst hge
      refine AW.exit ?_; simp only [thenQ, blockQ, reduceIte, Nat.reduceEqDiff]
      refine AW.seq (AW.reg cd33_7 fun K hK => ?_)
      simp only [g33_7, bR, Nat.reduceEqDiff, reduceIte, Int.reduceBNe, Int.reduceBEq]
      refine .done (hK _ ?_); clear hK K; simp only [thenQ, blockQ]
      refine AW.ret ?_
      simp only [blockQ, thenQ, bR, Nat.reduceEqDiff, reduceIte, Int.reduceBNe, Int.reduceBEq]
theorem F44 (m : Arr 5 Int) : Ctr Try.prog 44 [enc m] (enc (if (List.range 5).all (fun i => inR 0 31 (m.g i) && bit (m.g i) i) then (0 : Int) else 11)) := by
  refine Ctr.mk' Try.func44 ca44 cc44 cr44 (Nat.le_of_ble_eq_true rfl) (fun hwf W0 D0 E1 => ?_)
  simp only [c44, r44, idx, Nat.zero_add, Nat.reduceAdd]
  refine AW.seq (AW.reg cd44_0 fun K hK => ?_)
  simp only [g44_0, bR, Nat.reduceEqDiff, reduceIte, Int.reduceBNe, Int.reduceBEq]
  refine .done (hK _ ?_); clear hK K; simp only [thenQ, blockQ]
  refine AW.seq ?_
  refine AW.seq (AW.reg cd44_1 fun K hK => ?_)
  simp only [g44_1, bR, Nat.reduceEqDiff, reduceIte, Int.reduceBNe, Int.reduceBEq]
  refine .done (hK _ ?_); clear hK K; simp only [thenQ, blockQ]
  refine AW.block (AW.loop (fun i : Nat => mkA [(1, .ptr 1 []), (2, .int .i64 0), (3, .int .i64 i)] [(1, .box (enc m))]) (fun j => j ≤ 5 ∧ ∀ i, i < j → (inR 0 31 (m.g i) && bit (m.g i) i) = true) (fun i => 5 - i) 0 ⟨by omega, fun k h => by omega⟩ ?_ (fun i hi => ?_))
  · refine Sub.of_lists ?_ ?_ ?_ ?_ <;> simp [subT, subO, onlyT, onlyO, isIn, look_cons, lookO_cons, lookO_nil, AV.only, AV.onlys, AO.only, onlys_map, onlys_append, e_only, e_int, e_bool]
  · refine AW.seq (AW.seq ?_)
    refine AW.reg cd44_2 fun K hK => ?_
    simp only [g44_2, bR, Nat.reduceEqDiff, reduceIte, Int.reduceBNe, Int.reduceBEq]
    refine .done (hK _ ?_); clear hK K; simp only [thenQ, blockQ]
    refine AW.ite ?_
    simp only [condQ, bR, Nat.reduceEqDiff, reduceIte, Int.reduceBNe, Int.reduceBEq]
    refine ⟨fun h => ?_, fun h => ?_⟩
    · have hlt : i < 5 := by simp at h; omega
      refine AW.skip ?_; simp only [thenQ, blockQ, reduceIte, Nat.reduceEqDiff]
      refine AW.seq (AW.block ?_)
      refine AW.seq (AW.reg cd44_3 fun K hK => ?_)
      simp only [g44_3, bR, Nat.reduceEqDiff, reduceIte, Int.reduceBNe, Int.reduceBEq]
      simp only [useR, inB_nat 1 m hlt rfl, atL_g m hlt, okR, bR, Nat.reduceEqDiff, reduceIte, Int.reduceBNe, Int.reduceBEq]
      refine .flat _ (F94 _ 0 31) rfl ?_
      generalize hb : (decide (0 ≤ m.g i) && decide (m.g i ≤ 31)) = b
      cases b
      · simp only [bR, Nat.reduceEqDiff, reduceIte, Int.reduceBNe, Int.reduceBEq]
        refine .done (hK _ ?_); clear hK K; simp only [thenQ, blockQ]
        refine AW.ite ?_
        simp only [condQ, bR, Nat.reduceEqDiff, reduceIte, Int.reduceBNe, Int.reduceBEq]
        refine ⟨fun h => ?_, fun h => ?_⟩
        · refine AW.seq (AW.reg cd44_4 fun K hK => ?_)
          simp only [g44_4, bR, Nat.reduceEqDiff, reduceIte, Int.reduceBNe, Int.reduceBEq]
          refine .done (hK _ ?_); clear hK K; simp only [thenQ, blockQ]
          refine AW.ret ?_
          simp only [blockQ, thenQ, bR, Nat.reduceEqDiff, reduceIte, Int.reduceBNe, Int.reduceBEq]
          rw [all_false i hlt]
          · simp
          · simp only [inR, hb, Bool.false_and]
        · cases h
      · simp only [useR, inB_nat 1 m hlt rfl, atL_g m hlt, okR, bR, Nat.reduceEqDiff, reduceIte, Int.reduceBNe, Int.reduceBEq]
        refine .done (hK _ ?_); clear hK K; simp only [thenQ, blockQ]
        refine AW.ite ?_
        simp only [condQ, bR, Nat.reduceEqDiff, reduceIte, Int.reduceBNe, Int.reduceBEq]
        refine ⟨fun h => ?_, fun h => ?_⟩
        · refine AW.seq (AW.reg cd44_4 fun K hK => ?_)
          simp only [g44_4, bR, Nat.reduceEqDiff, reduceIte, Int.reduceBNe, Int.reduceBEq]
          refine .done (hK _ ?_); clear hK K; simp only [thenQ, blockQ]
          refine AW.ret ?_
          simp only [blockQ, thenQ, bR, Nat.reduceEqDiff, reduceIte, Int.reduceBNe, Int.reduceBEq]
          rw [all_false i hlt]
          · simp
          · simp only [inR, hb, Bool.true_and, bit, band, shl]
            simpa using h
        · refine AW.skip ?_; simp only [thenQ, blockQ, reduceIte, Nat.reduceEqDiff]
          refine AW.reg cd44_5 fun K hK => ?_
          simp only [g44_5, bR, Nat.reduceEqDiff, reduceIte, Int.reduceBNe, Int.reduceBEq]
          refine .done (hK _ ?_); clear hK K; simp only [thenQ, blockQ]
          refine ⟨i + 1, ⟨by omega, fun k hk => ?_⟩, by omega, ?_⟩
          · by_cases hk' : k = i
            · subst hk'
              simp only [inR, hb, Bool.true_and, bit, band, shl]
              simpa using h
            · exact hi.2 k (by omega)
          · rw [wrap_id _ (by omega) (by omega)]
            refine Sub.of_lists ?_ ?_ ?_ ?_ <;> simp [subT, subO, onlyT, onlyO, isIn, look_cons, lookO_cons, lookO_nil, AV.only, AV.onlys, AO.only, onlys_map, onlys_append, e_only, e_int, e_bool]
    · have hge : i = 5 := by simp at h; omega
      subst hge
      refine AW.exit ?_; simp only [thenQ, blockQ, reduceIte, Nat.reduceEqDiff]
      refine AW.seq (AW.reg cd44_6 fun K hK => ?_)
      simp only [g44_6, bR, Nat.reduceEqDiff, reduceIte, Int.reduceBNe, Int.reduceBEq]
      refine .done (hK _ ?_); clear hK K; simp only [thenQ, blockQ]
      refine AW.ret ?_
      simp only [blockQ, thenQ, bR, Nat.reduceEqDiff, reduceIte, Int.reduceBNe, Int.reduceBEq]
      rw [all_true hi.2]
      simp

theorem F16 (a b : List Int) : Ctr Try.prog 16 [enc a, enc b] (enc (decide (a = b))) := by
  refine Ctr.mk' Try.func16 ca16 cc16 cr16 (Nat.le_of_ble_eq_true rfl) (fun hwf W0 D0 E1 => ?_)
  simp only [c16, r16, idx, Nat.zero_add, Nat.reduceAdd]
  have hlen : a.length ≤ maxLen := ((wf_list a).1 hwf.1).1
  simp only [maxLen] at hlen
  refine AW.seq (AW.reg cd16_0 fun K hK => ?_)
  simp only [g16_0, bR, Nat.reduceEqDiff, reduceIte, Int.reduceBNe, Int.reduceBEq]
  refine .done (hK _ ?_); clear hK K; simp only [thenQ, blockQ]
  refine AW.seq (AW.seq ?_)
  refine AW.reg cd16_1 fun K hK => ?_
  simp only [g16_1, bR, Nat.reduceEqDiff, reduceIte, Int.reduceBNe, Int.reduceBEq]
  simp only [useR, bR, Nat.reduceEqDiff, reduceIte, Int.reduceBNe, Int.reduceBEq]
  refine .done (hK _ ?_); clear hK K; simp only [thenQ, blockQ]
  refine AW.ite ?_
  simp only [condQ, bR, Nat.reduceEqDiff, reduceIte, Int.reduceBNe, Int.reduceBEq]
  refine ⟨fun h => ?_, fun h => ?_⟩
  · refine AW.seq (AW.reg cd16_2 fun K hK => ?_)
    simp only [g16_2, bR, Nat.reduceEqDiff, reduceIte, Int.reduceBNe, Int.reduceBEq]
    refine .done (hK _ ?_); clear hK K; simp only [thenQ, blockQ]
    refine AW.ret ?_
    simp only [blockQ, thenQ, bR, Nat.reduceEqDiff, reduceIte, Int.reduceBNe, Int.reduceBEq]
    simp at h
    have : a ≠ b := fun e => h (by rw [e])
    simp [this]
  · have hab : a.length = b.length := by simp at h; omega
    refine AW.skip ?_; simp only [thenQ, blockQ, reduceIte, Nat.reduceEqDiff]
    refine AW.seq ?_
    refine AW.seq (AW.reg cd16_3 fun K hK => ?_)
    simp only [g16_3, bR, Nat.reduceEqDiff, reduceIte, Int.reduceBNe, Int.reduceBEq]
    refine .done (hK _ ?_); clear hK K; simp only [thenQ, blockQ]
    refine AW.block (AW.loop (fun i : Nat => mkA [(0, enc a), (1, enc b), (5, .int .i64 i)] []) (fun i => i ≤ a.length ∧ a.take i = b.take i) (fun i => a.length - i) 0 ⟨Nat.zero_le _, by simp⟩ ?_ (fun i hi => ?_))
    · refine Sub.of_lists ?_ ?_ ?_ ?_ <;> simp [subT, subO, onlyT, onlyO, isIn, look_cons, lookO_cons, lookO_nil, AV.only, AV.onlys, AO.only, onlys_map, onlys_append, e_only, e_int, e_bool]
    · refine AW.seq (AW.seq ?_)
      refine AW.reg cd16_4 fun K hK => ?_
      simp only [g16_4, bR, Nat.reduceEqDiff, reduceIte, Int.reduceBNe, Int.reduceBEq]
      simp only [useR, bR, Nat.reduceEqDiff, reduceIte, Int.reduceBNe, Int.reduceBEq]
      refine .done (hK _ ?_); clear hK K; simp only [thenQ, blockQ]
      refine AW.ite ?_
      simp only [condQ, bR, Nat.reduceEqDiff, reduceIte, Int.reduceBNe, Int.reduceBEq]
      refine ⟨fun h => ?_, fun h => ?_⟩
      · have hlt : i < a.length := by simpa using h
        have hlb : i < b.length := by omega
        refine AW.skip ?_; simp only [thenQ, blockQ, reduceIte, Nat.reduceEqDiff]
        refine AW.seq (AW.block ?_)
        refine AW.seq (AW.reg cd16_5 fun K hK => ?_)
        simp only [g16_5, bR, Nat.reduceEqDiff, reduceIte, Int.reduceBNe, Int.reduceBEq]
        simp only [isE_nat 1 hlt rfl, isE_nat 1 hlb rfl, okR, bR, Nat.reduceEqDiff, reduceIte, Int.reduceBNe, Int.reduceBEq]
        refine .done (hK _ ?_); clear hK K; simp only [thenQ, blockQ]
        refine AW.ite ?_
        simp only [condQ, bR, Nat.reduceEqDiff, reduceIte, Int.reduceBNe, Int.reduceBEq]
        refine ⟨fun h => ?_, fun h => ?_⟩
        · refine AW.seq (AW.reg cd16_6 fun K hK => ?_)
          simp only [g16_6, bR, Nat.reduceEqDiff, reduceIte, Int.reduceBNe, Int.reduceBEq]
          refine .done (hK _ ?_); clear hK K; simp only [thenQ, blockQ]
          refine AW.ret ?_
          simp only [blockQ, thenQ, bR, Nat.reduceEqDiff, reduceIte, Int.reduceBNe, Int.reduceBEq]
          have hne : a ≠ b := fun e => by subst e; simp at h
          simp [hne]
        · refine AW.skip ?_; simp only [thenQ, blockQ, reduceIte, Nat.reduceEqDiff]
          refine AW.reg cd16_7 fun K hK => ?_
          simp only [g16_7, bR, Nat.reduceEqDiff, reduceIte, Int.reduceBNe, Int.reduceBEq]
          refine .done (hK _ ?_); clear hK K; simp only [thenQ, blockQ]
          refine ⟨i + 1, ⟨by omega, ?_⟩, by omega, ?_⟩
          · rw [List.take_succ_eq_append_getElem hlt, List.take_succ_eq_append_getElem hlb, hi.2]
            simp at h
            rw [h]
          · rw [wrap_id _ (by omega) (by omega)]
            refine Sub.of_lists ?_ ?_ ?_ ?_ <;> simp [subT, subO, onlyT, onlyO, isIn, look_cons, lookO_cons, lookO_nil, AV.only, AV.onlys, AO.only, onlys_map, onlys_append, e_only, e_int, e_bool]
      · have hge : i = a.length := by simp at h; omega
        refine AW.exit ?_; simp only [thenQ, blockQ, reduceIte, Nat.reduceEqDiff]
        refine AW.seq (AW.reg cd16_8 fun K hK => ?_)
        simp only [g16_8, bR, Nat.reduceEqDiff, reduceIte, Int.reduceBNe, Int.reduceBEq]
        refine .done (hK _ ?_); clear hK K; simp only [thenQ, blockQ]
        refine AW.ret ?_
        simp only [blockQ, thenQ, bR, Nat.reduceEqDiff, reduceIte, Int.reduceBNe, Int.reduceBEq]
        have : a = b := by
          have := hi.2
          rw [hge, List.take_length] at this
          rw [hab, List.take_length] at this
          exact this
        simp [this]

end Go.Proofs.Ytkjkbpgdpnapfaa

/-
  THE PROGRAM'S DATA AS ABSTRACT VALUES: a given mark, a book of marks. And small functions by contract: index, worn, meets, within, has, isSet.
-/
namespace Go.Proofs.Ytkjkbpgdpnapfaa
open Go Go.Abs
open Go.Abs.Enc (enc)

structure Given where
  owner : Int
  mark : Arr 6 Int

instance : Enc Given where
  enc g := .agg [.int .i64 g.owner, enc g.mark]
  sz := 7
  sh := .many [.one, .many (List.replicate 6 .one)]
  isA := true
  done g := by simp only [AV.done, AV.dones, Enc.done, Bool.and_self]
  size g := by simp only [AV.size, AV.sizes, e_size, e_szArr, e_szInt]
  shp g := by simp only [AV.sh, AV.shs, e_sh, e_shArr, e_shInt]
  agg _ := rfl

structure Marks where
  wear : Arr 5 Int
  fls : Int
  given : List Given

instance : Enc Marks where
  enc m := .agg [enc m.wear, .int .i64 m.fls, enc m.given]
  sz := 7
  sh := .many [.many (List.replicate 5 .one), .one, .one]
  isA := true
  done m := by simp only [AV.done, AV.dones, Enc.done, Bool.and_self]
  size m := by simp only [AV.size, AV.sizes, e_size, e_szArr, e_szInt, e_szList]
  shp m := by simp only [AV.sh, AV.shs, e_sh, e_shArr, e_shInt, e_shList]
  agg _ := rfl

theorem offR_eq {fs : List AV} {f off : Nat} {v : AV} (h1 : f < fs.length) (h : AV.sizes (fs.take f) = off) : offR fs f off v = some v := by simp [offR, h, h1]
theorem typR :
    (∀ m : Marks, (enc m).flds = some [enc m.wear, .int .i64 m.fls, enc m.given]) ∧ (∀ g : Given, (enc g).flds = some [.int .i64 g.owner, enc g.mark]) ∧
    (∀ (w : Arr 5 Int) (n : Int) (g : List Given) v, offR [enc w, .int .i64 n, enc g] 0 0 v = some v) ∧ (∀ (w : Arr 5 Int) (n : Int) (g : List Given) v, offR [enc w, .int .i64 n, enc g] 1 5 v = some v) ∧ (∀ (w : Arr 5 Int) (n : Int) (g : List Given) v, offR [enc w, .int .i64 n, enc g] 2 6 v = some v) ∧
    (∀ (n : Int) (m : Arr 6 Int) v, offR [.int .i64 n, enc m] 0 0 v = some v) ∧ (∀ (n : Int) (m : Arr 6 Int) v, offR [.int .i64 n, enc m] 1 1 v = some v) ∧
    (∀ (g : List Given), okLd none (enc g) = true) ∧ (∀ (g : List Int), okLd none (enc g) = true) ∧ (∀ (g : Arr 5 Int), okLd (some 5) (enc g) = true) ∧ (∀ (g : Arr 6 Int), okLd (some 6) (enc g) = true) ∧ (∀ (g : Given), okLd (some 7) (enc g) = true) ∧ (∀ (g : Marks), okLd (some 7) (enc g) = true) ∧
    (∀ (fs : List AV) x, (x :: fs)[0]? = some x) ∧ (∀ (fs : List AV) x n, (x :: fs)[n + 1]? = fs[n]?) ∧ (∀ (fs : List AV) x, (x :: fs)[1]? = fs[0]?) ∧ (∀ (fs : List AV) x, (x :: fs)[2]? = fs[1]?) :=
  ⟨fun _ => rfl, fun _ => rfl, fun _ _ _ _ => offR_eq (Nat.le_of_ble_eq_true rfl) rfl, fun w n g v => offR_eq (Nat.le_of_ble_eq_true rfl) (by simp [AV.sizes, e_size, e_szArr, e_szInt]), fun w n g v => offR_eq (Nat.le_of_ble_eq_true rfl) (by simp [AV.sizes, AV.size, e_size, e_szArr, e_szInt]), fun _ _ _ => offR_eq (Nat.le_of_ble_eq_true rfl) rfl, fun _ _ _ => offR_eq (Nat.le_of_ble_eq_true rfl) (by simp [AV.sizes, AV.size]),
    fun _ => by simp [e_okN, e_isAList], fun _ => by simp [e_okN, e_isAList], fun _ => by simp [e_okS, e_isAArr, e_szArr, e_szInt], fun _ => by simp [e_okS, e_isAArr, e_szArr, e_szInt], fun _ => by rw [e_okS]; rfl, fun _ => by rw [e_okS]; rfl,
    fun _ _ => rfl, fun _ _ _ => rfl, fun _ _ => rfl, fun _ _ => rfl⟩

def idxOf (l : List Given) (o : Int) : Nat → Int
  | i => match l with
    | [] => -1
    | g :: r => if g.owner = o then i else idxOf r o (i + 1)

theorem F89 (n lo hi : Int) : Ctr Try.prog 89 [enc n, enc lo, enc hi] (enc (inR lo hi n)) := by
  refine Ctr.mk' Try.func89 ca89 cc89 cr89 (Nat.le_of_ble_eq_true rfl) (fun hwf W0 D0 E1 => ?_)
  simp only [c89, r89, idx, Nat.zero_add, Nat.reduceAdd]
  refine AW.seq (AW.reg cd89_0 fun K hK => ?_)
  simp only [g89_0, bR, Nat.reduceEqDiff, reduceIte, Int.reduceBNe, Int.reduceBEq]
  refine .done (hK _ ?_); clear hK K; simp only [thenQ, blockQ]
  refine AW.seq (AW.reg cd89_1 fun K hK => ?_)
  simp only [g89_1, bR, Nat.reduceEqDiff, reduceIte, Int.reduceBNe, Int.reduceBEq]
  refine .guard (fun h => ?_) (fun h => ?_)
  · simp only [bR, Nat.reduceEqDiff, reduceIte, Int.reduceBNe, Int.reduceBEq, h]
    refine .done (hK _ ?_); clear hK K; simp only [thenQ, blockQ]
    refine AW.ret ?_
    simp only [blockQ, thenQ, bR, Nat.reduceEqDiff, reduceIte, Int.reduceBNe, Int.reduceBEq]
    simp_all [inR]
  · simp only [bR, Nat.reduceEqDiff, reduceIte, Int.reduceBNe, Int.reduceBEq, h]
    refine .done (hK _ ?_); clear hK K; simp only [thenQ, blockQ]
    refine AW.ret ?_
    simp only [blockQ, thenQ, bR, Nat.reduceEqDiff, reduceIte, Int.reduceBNe, Int.reduceBEq]
    simp at h
    simp [inR]; omega

theorem F117 (n : Int) : Ctr Try.prog 117 [enc n] (enc (inR 0 31 n)) := by
  refine Ctr.mk' Try.func117 ca117 cc117 cr117 (Nat.le_of_ble_eq_true rfl) (fun hwf W0 D0 E1 => ?_)
  simp only [c117, r117, idx, Nat.zero_add, Nat.reduceAdd]
  refine AW.seq (AW.reg cd117_0 fun K hK => ?_)
  simp only [g117_0, bR, Nat.reduceEqDiff, reduceIte, Int.reduceBNe, Int.reduceBEq]
  refine .done (hK _ ?_); clear hK K; simp only [thenQ, blockQ]
  refine AW.seq (AW.reg cd117_1 fun K hK => ?_)
  simp only [g117_1, bR, Nat.reduceEqDiff, reduceIte, Int.reduceBNe, Int.reduceBEq]
  refine .flat _ (F89 n 0 31) rfl ?_
  simp only [bR, Nat.reduceEqDiff, reduceIte, Int.reduceBNe, Int.reduceBEq]
  refine .done (hK _ ?_); clear hK K; simp only [thenQ, blockQ]
  refine AW.ret ?_
  simp only [blockQ, thenQ, bR, Nat.reduceEqDiff, reduceIte, Int.reduceBNe, Int.reduceBEq]

theorem F78 (a b : Int) : Ctr Try.prog 78 [enc a, enc b] (enc (band a b != 0)) := by
  refine Ctr.mk' Try.func78 ca78 cc78 cr78 (Nat.le_of_ble_eq_true rfl) (fun hwf W0 D0 E1 => ?_)
  simp only [c78, r78, idx, Nat.zero_add, Nat.reduceAdd]
  refine AW.seq (AW.reg cd78_0 fun K hK => ?_)
  simp only [g78_0, bR, Nat.reduceEqDiff, reduceIte, Int.reduceBNe, Int.reduceBEq]
  refine .done (hK _ ?_); clear hK K; simp only [thenQ, blockQ]
  refine AW.seq (AW.reg cd78_1 fun K hK => ?_)
  simp only [g78_1, bR, Nat.reduceEqDiff, reduceIte, Int.reduceBNe, Int.reduceBEq]
  refine .done (hK _ ?_); clear hK K; simp only [thenQ, blockQ]
  refine AW.ret ?_
  simp only [blockQ, thenQ, bR, Nat.reduceEqDiff, reduceIte, Int.reduceBNe, Int.reduceBEq]
  rfl

theorem F77 (w : Arr 5 Int) (m : Arr 6 Int) (i : Nat) (hi : i < 6) (h0 : 0 ≤ m.g i) (h5 : m.g i < 5) : Ctr Try.prog 77 [enc w, enc m, enc (i : Int)] (enc (w.g (m.g i).toNat)) := by
  refine Ctr.mk' Try.func77 ca77 cc77 cr77 (Nat.le_of_ble_eq_true rfl) (fun hwf W0 D0 E1 => ?_)
  simp only [c77, r77, idx, Nat.zero_add, Nat.reduceAdd]
  refine AW.seq (AW.reg cd77_0 fun K hK => ?_)
  simp only [g77_0, bR, Nat.reduceEqDiff, reduceIte, Int.reduceBNe, Int.reduceBEq]
  refine .done (hK _ ?_); clear hK K; simp only [thenQ, blockQ]
  refine AW.seq (AW.reg cd77_1 fun K hK => ?_)
  simp only [g77_1, bR, Nat.reduceEqDiff, reduceIte, Int.reduceBNe, Int.reduceBEq]
  have hk : (m.g i).toNat < 5 := by omega
  simp only [useR, inB_nat 1 m hi rfl, atL_g m hi, okR, bR, Nat.reduceEqDiff, reduceIte, Int.reduceBNe, Int.reduceBEq]
  simp only [useR, inB_int 1 w ⟨h0, h5⟩ rfl, atL_g w hk, okR, bR, Nat.reduceEqDiff, reduceIte, Int.reduceBNe, Int.reduceBEq]
  refine .done (hK _ ?_); clear hK K; simp only [thenQ, blockQ]
  refine AW.ret ?_
  simp only [blockQ, thenQ, bR, Nat.reduceEqDiff, reduceIte, Int.reduceBNe, Int.reduceBEq]

end Go.Proofs.Ytkjkbpgdpnapfaa

/-
  FUNCTIONS OF THE REFERENCE BY CONTRACT: index, distance.
-/
namespace Go.Proofs.Ytkjkbpgdpnapfaa
open Go Go.Abs
open Go.Abs.Enc (enc)

def cnt (p : Nat → Bool) : Nat → Nat
  | 0 => 0
  | n + 1 => cnt p n + if p n then 1 else 0
theorem cnt_le (p : Nat → Bool) : ∀ n, cnt p n ≤ n
  | 0 => Nat.le_refl _
  | n + 1 => by have := cnt_le p n; simp only [cnt]; split <;> omega

/-- Where in the book an owner's mark lies; -1: nowhere. -/
def indexOf (l : List Given) (o : Int) : Int := match l.findIdx? fun g => g.owner == o with
  | some i => i
  | none => -1

theorem F80 (m : Marks) (o : Int) : Ctr Try.prog 80 [enc m, enc o] (enc (indexOf m.given o)) := by
  refine Ctr.mk' Try.func80 ca80 cc80 cr80 (Nat.le_of_ble_eq_true rfl) (fun hwf W0 D0 E1 => ?_)
  simp only [c80, r80, idx, Nat.zero_add, Nat.reduceAdd]
  have hlen : m.given.length ≤ maxLen := ((wf_list m.given).1 hwf.1.2.2.1).1
  simp only [maxLen] at hlen
  refine AW.seq (AW.reg cd80_0 fun K hK => ?_)
  simp only [g80_0, bR, Nat.reduceEqDiff, reduceIte, Int.reduceBNe, Int.reduceBEq]
  refine .done (hK _ ?_); clear hK K; simp only [thenQ, blockQ]
  refine AW.seq ?_
  refine AW.seq (AW.reg cd80_1 fun K hK => ?_)
  simp only [g80_1, bR, Nat.reduceEqDiff, reduceIte, Int.reduceBNe, Int.reduceBEq]
  refine .done (hK _ ?_); clear hK K; simp only [thenQ, blockQ]
  refine AW.block (AW.loop (fun i : Nat => mkA [(1, .int .i64 o), (2, .ptr 2 []), (5, .int .i64 i)] [(2, .box (enc m))]) (fun i => i ≤ m.given.length ∧ ∀ k (h : k < m.given.length), k < i → m.given[k].owner ≠ o) (fun i => m.given.length - i) 0 ⟨by omega, fun k _ h => by omega⟩ ?_ (fun i hi => ?_))
  · refine Sub.of_lists ?_ ?_ ?_ ?_ <;> simp [subT, subO, onlyT, onlyO, isIn, look_cons, lookO_cons, lookO_nil, AV.only, AV.onlys, AO.only, onlys_map, onlys_append, e_only, e_int, e_bool]
  · refine AW.seq (AW.seq ?_)
    refine AW.reg cd80_2 fun K hK => ?_
    simp only [g80_2, bR, Nat.reduceEqDiff, reduceIte, Int.reduceBNe, Int.reduceBEq]
    simp only [typR, useR, okR, bR, Nat.reduceEqDiff, reduceIte, Int.reduceBNe, Int.reduceBEq]
    refine .done (hK _ ?_); clear hK K; simp only [thenQ, blockQ]
    refine AW.ite ?_
    simp only [condQ, bR, Nat.reduceEqDiff, reduceIte, Int.reduceBNe, Int.reduceBEq]
    refine ⟨fun h => ?_, fun h => ?_⟩
    · have hlt : i < m.given.length := by simpa using h
      refine AW.skip ?_; simp only [thenQ, blockQ, reduceIte, Nat.reduceEqDiff]
      refine AW.seq (AW.block ?_)
      refine AW.seq (AW.reg cd80_3 fun K hK => ?_)
      simp only [g80_3, bR, Nat.reduceEqDiff, reduceIte, Int.reduceBNe, Int.reduceBEq]
      simp only [typR, useR, okR, isE_nat 7 hlt rfl, bR, Nat.reduceEqDiff, reduceIte, Int.reduceBNe, Int.reduceBEq]
      refine .done (hK _ ?_); clear hK K; simp only [thenQ, blockQ]
      refine AW.ite ?_
      simp only [condQ, bR, Nat.reduceEqDiff, reduceIte, Int.reduceBNe, Int.reduceBEq]
      refine ⟨fun h => ?_, fun h => ?_⟩
      · refine AW.seq (AW.reg cd80_4 fun K hK => ?_)
        simp only [g80_4, bR, Nat.reduceEqDiff, reduceIte, Int.reduceBNe, Int.reduceBEq]
        refine .done (hK _ ?_); clear hK K; simp only [thenQ, blockQ]
        refine AW.ret ?_
        simp only [blockQ, thenQ, bR, Nat.reduceEqDiff, reduceIte, Int.reduceBNe, Int.reduceBEq]
        have : m.given.findIdx? (fun g => g.owner == o) = some i := by
          rw [List.findIdx?_eq_some_iff_getElem]
          refine ⟨hlt, by simpa using h, fun j hj => ?_⟩
          have := hi.2 j (by omega) hj
          simpa using this
        simp [indexOf, this]
      · refine AW.skip ?_; simp only [thenQ, blockQ, reduceIte, Nat.reduceEqDiff]
        refine AW.reg cd80_5 fun K hK => ?_
        simp only [g80_5, bR, Nat.reduceEqDiff, reduceIte, Int.reduceBNe, Int.reduceBEq]
        refine .done (hK _ ?_); clear hK K; simp only [thenQ, blockQ]
        refine ⟨i + 1, ⟨by omega, fun k hk hki => ?_⟩, by omega, ?_⟩
        · by_cases hk' : k = i
          · subst hk'; simpa using h
          · exact hi.2 k hk (by omega)
        · rw [wrap_id _ (by omega) (by omega)]
          refine Sub.of_lists ?_ ?_ ?_ ?_ <;> simp [subT, subO, onlyT, onlyO, isIn, look_cons, lookO_cons, lookO_nil, AV.only, AV.onlys, AO.only, onlys_map, onlys_append, e_only, e_int, e_bool]
    · have hge : i = m.given.length := by simp at h; omega
      refine AW.exit ?_; simp only [thenQ, blockQ, reduceIte, Nat.reduceEqDiff]
      refine AW.seq (AW.reg cd80_6 fun K hK => ?_)
      simp only [g80_6, bR, Nat.reduceEqDiff, reduceIte, Int.reduceBNe, Int.reduceBEq]
      refine .done (hK _ ?_); clear hK K; simp only [thenQ, blockQ]
      refine AW.ret ?_
      simp only [blockQ, thenQ, bR, Nat.reduceEqDiff, reduceIte, Int.reduceBNe, Int.reduceBEq]
      have : m.given.findIdx? (fun g => g.owner == o) = none := by
        rw [List.findIdx?_eq_none_iff]
        intro x hx
        obtain ⟨k, hk, rfl⟩ := List.getElem_of_mem hx
        simpa using hi.2 k hk (by omega)
      simp [indexOf, this]

/-- Whether a place of two marks differs under a wear. -/
def apartAt (w : Arr 5 Int) (a b : Arr 6 Int) (i : Nat) : Bool := band (w.g (a.g i).toNat) (w.g (b.g i).toNat) == 0
def okMark (m : Arr 6 Int) : Bool := (List.range 6).all fun i => inR 0 4 (m.g i)
theorem okMark_at {m : Arr 6 Int} (h : okMark m = true) {i : Nat} (hi : i < 6) : 0 ≤ m.g i ∧ m.g i < 5 := by
  simp only [okMark, List.all_eq_true, List.mem_range] at h
  have := h i hi
  simp [inR] at this
  omega

theorem F99 (w : Arr 5 Int) (a b : Arr 6 Int) (ha : okMark a = true) (hb : okMark b = true) : Ctr Try.prog 99 [enc w, enc a, enc b] (enc (cnt (apartAt w a b) 6 : Int)) := by
  refine Ctr.mk' Try.func99 ca99 cc99 cr99 (Nat.le_of_ble_eq_true rfl) (fun hwf W0 D0 E1 => ?_)
  simp only [c99, r99, idx, Nat.zero_add, Nat.reduceAdd]
  refine AW.seq (AW.reg cd99_0 fun K hK => ?_)
  simp only [g99_0, bR, Nat.reduceEqDiff, reduceIte, Int.reduceBNe, Int.reduceBEq]
  refine .done (hK _ ?_); clear hK K; simp only [thenQ, blockQ]
  refine AW.seq (AW.reg cd99_1 fun K hK => ?_)
  simp only [g99_1, bR, Nat.reduceEqDiff, reduceIte, Int.reduceBNe, Int.reduceBEq]
  refine .done (hK _ ?_); clear hK K; simp only [thenQ, blockQ]
  refine AW.seq (AW.seq ?_)
  refine AW.reg cd99_2 fun K hK => ?_
  simp only [g99_2, bR, Nat.reduceEqDiff, reduceIte, Int.reduceBNe, Int.reduceBEq]
  refine .done (hK _ ?_); clear hK K; simp only [thenQ, blockQ]
  refine AW.block (AW.loop (fun i : Nat => mkA [(3, .ptr 3 []), (4, .ptr 4 []), (5, .ptr 5 []), (7, .int .i64 (cnt (apartAt w a b) i)), (8, .int .i64 i)] [(3, .box (enc w)), (4, .box (enc a)), (5, .box (enc b))]) (fun i => i ≤ 6) (fun i => 6 - i) 0 (by omega) ?_ (fun i hi => ?_))
  · simp only [cnt]
    refine Sub.of_lists ?_ ?_ ?_ ?_ <;> simp [subT, subO, onlyT, onlyO, isIn, look_cons, lookO_cons, lookO_nil, AV.only, AV.onlys, AO.only, onlys_map, onlys_append, e_only, e_int, e_bool]
  · have hc := cnt_le (apartAt w a b) i
    refine AW.seq (AW.seq ?_)
    refine AW.reg cd99_3 fun K hK => ?_
    simp only [g99_3, bR, Nat.reduceEqDiff, reduceIte, Int.reduceBNe, Int.reduceBEq]
    refine .done (hK _ ?_); clear hK K; simp only [thenQ, blockQ]
    refine AW.ite ?_
    simp only [condQ, bR, Nat.reduceEqDiff, reduceIte, Int.reduceBNe, Int.reduceBEq]
    refine ⟨fun h => ?_, fun h => ?_⟩
    · have hlt : i < 6 := by simp at h; omega
      have h1 := okMark_at ha hlt
      have h2 := okMark_at hb hlt
      refine AW.skip ?_; simp only [thenQ, blockQ, reduceIte, Nat.reduceEqDiff]
      refine AW.seq (AW.block ?_)
      refine AW.seq (AW.reg cd99_4 fun K hK => ?_)
      simp only [g99_4, bR, Nat.reduceEqDiff, reduceIte, Int.reduceBNe, Int.reduceBEq]
      have k1 : (a.g i).toNat < 5 := by omega
      have k2 : (b.g i).toNat < 5 := by omega
      simp only [useR, inB_nat 1 a hlt rfl, atL_g a hlt, okR, bR, Nat.reduceEqDiff, reduceIte, Int.reduceBNe, Int.reduceBEq]
      simp only [useR, inB_int 1 w h1 rfl, atL_g w k1, okR, bR, Nat.reduceEqDiff, reduceIte, Int.reduceBNe, Int.reduceBEq]
      simp only [useR, inB_nat 1 b hlt rfl, atL_g b hlt, okR, bR, Nat.reduceEqDiff, reduceIte, Int.reduceBNe, Int.reduceBEq]
      simp only [useR, inB_int 1 w h2 rfl, atL_g w k2, okR, bR, Nat.reduceEqDiff, reduceIte, Int.reduceBNe, Int.reduceBEq]
      refine .done (hK _ ?_); clear hK K; simp only [thenQ, blockQ]
      refine AW.ite ?_
      simp only [condQ, bR, Nat.reduceEqDiff, reduceIte, Int.reduceBNe, Int.reduceBEq]
      refine ⟨fun h => ?_, fun h => ?_⟩
      · have hap : apartAt w a b i = true := h
        refine AW.reg cd99_5 fun K hK => ?_
        simp only [g99_5, bR, Nat.reduceEqDiff, reduceIte, Int.reduceBNe, Int.reduceBEq]
        refine .done (hK _ ?_); clear hK K; simp only [thenQ, blockQ]
        refine AW.reg cd99_6 fun K hK => ?_
        simp only [g99_6, bR, Nat.reduceEqDiff, reduceIte, Int.reduceBNe, Int.reduceBEq]
        refine .done (hK _ ?_); clear hK K; simp only [thenQ, blockQ]
        refine ⟨i + 1, by omega, by omega, ?_⟩
        rw [wrap_id _ (by omega) (by omega), wrap_id _ (by omega) (by omega)]
        simp only [cnt, hap, if_true]
        refine Sub.of_lists ?_ ?_ ?_ ?_ <;> simp [subT, subO, onlyT, onlyO, isIn, look_cons, lookO_cons, lookO_nil, AV.only, AV.onlys, AO.only, onlys_map, onlys_append, e_only, e_int, e_bool]
      · have hap : apartAt w a b i = false := h
        refine AW.skip ?_; simp only [thenQ, blockQ, reduceIte, Nat.reduceEqDiff]
        refine AW.reg cd99_6 fun K hK => ?_
        simp only [g99_6, bR, Nat.reduceEqDiff, reduceIte, Int.reduceBNe, Int.reduceBEq]
        refine .done (hK _ ?_); clear hK K; simp only [thenQ, blockQ]
        refine ⟨i + 1, by omega, by omega, ?_⟩
        rw [wrap_id _ (by omega) (by omega)]
        simp only [cnt, hap, Bool.false_eq_true, if_false]
        refine Sub.of_lists ?_ ?_ ?_ ?_ <;> simp [subT, subO, onlyT, onlyO, isIn, look_cons, lookO_cons, lookO_nil, AV.only, AV.onlys, AO.only, onlys_map, onlys_append, e_only, e_int, e_bool]
    · have hge : i = 6 := by simp at h; omega
      subst hge
      refine AW.exit ?_; simp only [thenQ, blockQ, reduceIte, Nat.reduceEqDiff]
      refine AW.seq (AW.reg cd99_7 fun K hK => ?_)
      simp only [g99_7, bR, Nat.reduceEqDiff, reduceIte, Int.reduceBNe, Int.reduceBEq]
      refine .done (hK _ ?_); clear hK K; simp only [thenQ, blockQ]
      refine AW.ret ?_
      simp only [blockQ, thenQ, bR, Nat.reduceEqDiff, reduceIte, Int.reduceBNe, Int.reduceBEq]

end Go.Proofs.Ytkjkbpgdpnapfaa

/-
  FUNCTIONS OF THE REFERENCE BY CONTRACT: cost, owners, near.
-/
namespace Go.Proofs.Ytkjkbpgdpnapfaa
open Go Go.Abs
open Go.Abs.Enc (enc)

def costAt (w : Arr 5 Int) (a : Arr 6 Int) (r : Arr 6 Int) (i : Nat) : Bool := band (w.g (a.g i).toNat) (r.g i) == 0
def costOf (w : Arr 5 Int) (a r : Arr 6 Int) : Int := (cnt (costAt w a r) 6 : Int)

theorem F86 (w : Arr 5 Int) (a b : Arr 6 Int) (ha : okMark a = true) : Ctr Try.prog 86 [enc w, enc a, enc b] (enc (costOf w a b)) := by
  refine Ctr.mk' Try.func86 ca86 cc86 cr86 (Nat.le_of_ble_eq_true rfl) (fun hwf W0 D0 E1 => ?_)
  simp only [c86, r86, idx, Nat.zero_add, Nat.reduceAdd]
  refine AW.seq (AW.reg cd86_0 fun K hK => ?_)
  simp only [g86_0, bR, Nat.reduceEqDiff, reduceIte, Int.reduceBNe, Int.reduceBEq]
  refine .done (hK _ ?_); clear hK K; simp only [thenQ, blockQ]
  refine AW.seq (AW.reg cd86_1 fun K hK => ?_)
  simp only [g86_1, bR, Nat.reduceEqDiff, reduceIte, Int.reduceBNe, Int.reduceBEq]
  refine .done (hK _ ?_); clear hK K; simp only [thenQ, blockQ]
  refine AW.seq (AW.seq ?_)
  refine AW.reg cd86_2 fun K hK => ?_
  simp only [g86_2, bR, Nat.reduceEqDiff, reduceIte, Int.reduceBNe, Int.reduceBEq]
  refine .done (hK _ ?_); clear hK K; simp only [thenQ, blockQ]
  refine AW.block (AW.loop (fun i : Nat => mkA [(3, .ptr 3 []), (4, .ptr 4 []), (5, .ptr 5 []), (7, .int .i64 (cnt (costAt w a b) i)), (8, .int .i64 i)] [(3, .box (enc w)), (4, .box (enc a)), (5, .box (enc b))]) (fun i => i ≤ 6) (fun i => 6 - i) 0 (by omega) ?_ (fun i hi => ?_))
  · simp only [cnt]
    refine Sub.of_lists ?_ ?_ ?_ ?_ <;> simp [subT, subO, onlyT, onlyO, isIn, look_cons, lookO_cons, lookO_nil, AV.only, AV.onlys, AO.only, onlys_map, onlys_append, e_only, e_int, e_bool]
  · have hc := cnt_le (costAt w a b) i
    refine AW.seq (AW.seq ?_)
    refine AW.reg cd86_3 fun K hK => ?_
    simp only [g86_3, bR, Nat.reduceEqDiff, reduceIte, Int.reduceBNe, Int.reduceBEq]
    refine .done (hK _ ?_); clear hK K; simp only [thenQ, blockQ]
    refine AW.ite ?_
    simp only [condQ, bR, Nat.reduceEqDiff, reduceIte, Int.reduceBNe, Int.reduceBEq]
    refine ⟨fun h => ?_, fun h => ?_⟩
    · have hlt : i < 6 := by simp at h; omega
      have h1 := okMark_at ha hlt
      refine AW.skip ?_; simp only [thenQ, blockQ, reduceIte, Nat.reduceEqDiff]
      refine AW.seq (AW.block ?_)
      refine AW.seq (AW.reg cd86_4 fun K hK => ?_)
      simp only [g86_4, bR, Nat.reduceEqDiff, reduceIte, Int.reduceBNe, Int.reduceBEq]
      have k1 : (a.g i).toNat < 5 := by omega
      simp only [useR, inB_nat 1 a hlt rfl, atL_g a hlt, okR, bR, Nat.reduceEqDiff, reduceIte, Int.reduceBNe, Int.reduceBEq]
      simp only [useR, inB_int 1 w h1 rfl, atL_g w k1, okR, bR, Nat.reduceEqDiff, reduceIte, Int.reduceBNe, Int.reduceBEq]
      simp only [useR, inB_nat 1 b hlt rfl, atL_g b hlt, okR, bR, Nat.reduceEqDiff, reduceIte, Int.reduceBNe, Int.reduceBEq]
      refine .done (hK _ ?_); clear hK K; simp only [thenQ, blockQ]
      refine AW.ite ?_
      simp only [condQ, bR, Nat.reduceEqDiff, reduceIte, Int.reduceBNe, Int.reduceBEq]
      refine ⟨fun h => ?_, fun h => ?_⟩
      · have hap : costAt w a b i = true := h
        refine AW.reg cd86_5 fun K hK => ?_
        simp only [g86_5, bR, Nat.reduceEqDiff, reduceIte, Int.reduceBNe, Int.reduceBEq]
        refine .done (hK _ ?_); clear hK K; simp only [thenQ, blockQ]
        refine AW.reg cd86_6 fun K hK => ?_
        simp only [g86_6, bR, Nat.reduceEqDiff, reduceIte, Int.reduceBNe, Int.reduceBEq]
        refine .done (hK _ ?_); clear hK K; simp only [thenQ, blockQ]
        refine ⟨i + 1, by omega, by omega, ?_⟩
        rw [wrap_id _ (by omega) (by omega), wrap_id _ (by omega) (by omega)]
        simp only [cnt, hap, if_true]
        refine Sub.of_lists ?_ ?_ ?_ ?_ <;> simp [subT, subO, onlyT, onlyO, isIn, look_cons, lookO_cons, lookO_nil, AV.only, AV.onlys, AO.only, onlys_map, onlys_append, e_only, e_int, e_bool]
      · have hap : costAt w a b i = false := h
        refine AW.skip ?_; simp only [thenQ, blockQ, reduceIte, Nat.reduceEqDiff]
        refine AW.reg cd86_6 fun K hK => ?_
        simp only [g86_6, bR, Nat.reduceEqDiff, reduceIte, Int.reduceBNe, Int.reduceBEq]
        refine .done (hK _ ?_); clear hK K; simp only [thenQ, blockQ]
        refine ⟨i + 1, by omega, by omega, ?_⟩
        rw [wrap_id _ (by omega) (by omega)]
        simp only [cnt, hap, Bool.false_eq_true, if_false]
        refine Sub.of_lists ?_ ?_ ?_ ?_ <;> simp [subT, subO, onlyT, onlyO, isIn, look_cons, lookO_cons, lookO_nil, AV.only, AV.onlys, AO.only, onlys_map, onlys_append, e_only, e_int, e_bool]
    · have hge : i = 6 := by simp at h; omega
      subst hge
      refine AW.exit ?_; simp only [thenQ, blockQ, reduceIte, Nat.reduceEqDiff]
      refine AW.seq (AW.reg cd86_7 fun K hK => ?_)
      simp only [g86_7, bR, Nat.reduceEqDiff, reduceIte, Int.reduceBNe, Int.reduceBEq]
      refine .done (hK _ ?_); clear hK K; simp only [thenQ, blockQ]
      refine AW.ret ?_
      simp only [blockQ, thenQ, bR, Nat.reduceEqDiff, reduceIte, Int.reduceBNe, Int.reduceBEq]
      rfl

/-- A book that can be reckoned with: not endless, its marks are marks. -/
structure okBook (m : Marks) : Prop where
  len : m.given.length ≤ 1099511627776
  mark : ∀ g ∈ m.given, okMark g.mark = true

def ownersIn (m : Marks) (r : Arr 6 Int) (l : List Given) : List Int := (l.filter fun g => decide (costOf m.wear g.mark r ≤ m.fls)).map (·.owner)
theorem ownersIn_le (m : Marks) (r : Arr 6 Int) (l : List Given) : (ownersIn m r l).length ≤ l.length := by
  simp only [ownersIn, List.length_map]; exact List.length_filter_le _ _

theorem F84 (m : Marks) (r : Arr 6 Int) (hm : okBook m) : Ctr Try.prog 84 [enc m, enc r] (enc (ownersIn m r m.given)) := by
  refine Ctr.mk' Try.func84 ca84 cc84 cr84 (Nat.le_of_ble_eq_true rfl) (fun hwf W0 D0 E1 => ?_)
  simp only [c84, r84, idx, Nat.zero_add, Nat.reduceAdd]
  have hlen := hm.len
  refine AW.seq (AW.reg cd84_0 fun K hK => ?_)
  simp only [g84_0, bR, Nat.reduceEqDiff, reduceIte, Int.reduceBNe, Int.reduceBEq]
  refine .done (hK _ ?_); clear hK K; simp only [thenQ, blockQ]
  refine AW.seq (AW.reg cd84_1 fun K hK => ?_)
  simp only [g84_1, bR, Nat.reduceEqDiff, reduceIte, Int.reduceBNe, Int.reduceBEq]
  refine .done (hK _ ?_); clear hK K; simp only [thenQ, blockQ]
  refine AW.seq (AW.seq ?_)
  refine AW.reg cd84_2 fun K hK => ?_
  simp only [g84_2, bR, Nat.reduceEqDiff, reduceIte, Int.reduceBNe, Int.reduceBEq]
  refine .done (hK _ ?_); clear hK K; simp only [thenQ, blockQ]
  refine AW.block (AW.loop (fun i : Nat => mkA [(2, .ptr 2 []), (3, .ptr 3 []), (5, .own 5 (ownersIn m r (m.given.take i)).length), (6, .int .i64 i)] [(2, .box (enc m)), (3, .box (enc r)), (5, .row 3 1 ((ownersIn m r (m.given.take i)).map enc))]) (fun i => i ≤ m.given.length) (fun i => m.given.length - i) 0 (by omega) ?_ (fun i hi => ?_))
  · refine Sub.adoptL 5 5 3 1 1 ?_ ?_ ?_
    · simp only [absR, Nat.reduceEqDiff, reduceIte]
    · simp only [absR, Nat.reduceEqDiff, reduceIte]
    · simp only [List.take_zero, ownersIn, List.filter_nil, List.map_nil, List.length_nil]
      refine Sub.of_lists ?_ ?_ ?_ ?_ <;> simp [subT, subO, onlyT, onlyO, isIn, look_cons, lookO_cons, lookO_nil, AV.only, AV.onlys, AO.only, onlys_map, onlys_append, e_only, e_int, e_bool]
  · refine AW.seq (AW.seq ?_)
    refine AW.reg cd84_3 fun K hK => ?_
    simp only [g84_3, bR, Nat.reduceEqDiff, reduceIte, Int.reduceBNe, Int.reduceBEq]
    simp only [typR, useR, okR, bR, Nat.reduceEqDiff, reduceIte, Int.reduceBNe, Int.reduceBEq]
    refine .done (hK _ ?_); clear hK K; simp only [thenQ, blockQ]
    refine AW.ite ?_
    simp only [condQ, bR, Nat.reduceEqDiff, reduceIte, Int.reduceBNe, Int.reduceBEq]
    refine ⟨fun h => ?_, fun h => ?_⟩
    · have hlt : i < m.given.length := by simpa using h
      have hl := ownersIn_le m r (m.given.take i)
      rw [List.length_take] at hl
      refine AW.skip ?_; simp only [thenQ, blockQ, reduceIte, Nat.reduceEqDiff]
      refine AW.seq (AW.block ?_)
      refine AW.seq (AW.reg cd84_4 fun K hK => ?_)
      simp only [g84_4, bR, Nat.reduceEqDiff, reduceIte, Int.reduceBNe, Int.reduceBEq]
      simp only [typR, useR, okR, isE_nat 7 hlt rfl, e_fin, bR, Nat.reduceEqDiff, reduceIte, Int.reduceBNe, Int.reduceBEq]
      refine .flat _ (F86 m.wear m.given[i].mark r (hm.mark _ (List.getElem_mem _))) rfl ?_
      simp only [typR, useR, okR, isE_nat 7 hlt rfl, bR, Nat.reduceEqDiff, reduceIte, Int.reduceBNe, Int.reduceBEq]
      refine .done (hK _ ?_); clear hK K; simp only [thenQ, blockQ]
      have htake : ownersIn m r (m.given.take (i + 1)) = ownersIn m r (m.given.take i) ++ if costOf m.wear m.given[i].mark r ≤ m.fls then [m.given[i].owner] else [] := by
        rw [List.take_succ_eq_append_getElem hlt]
        simp only [ownersIn, List.filter_append, List.map_append, List.filter_cons, List.filter_nil, decide_eq_true_eq]
        split <;> simp
      refine AW.ite ?_
      simp only [condQ, bR, Nat.reduceEqDiff, reduceIte, Int.reduceBNe, Int.reduceBEq]
      refine ⟨fun h => ?_, fun h => ?_⟩
      · refine AW.reg cd84_5 fun K hK => ?_
        simp only [g84_5, bR, Nat.reduceEqDiff, reduceIte, Int.reduceBNe, Int.reduceBEq]
        simp only [typR, useR, okR, isE_nat 7 hlt rfl, bR, Nat.reduceEqDiff, reduceIte, Int.reduceBNe, Int.reduceBEq]
        rw [appR3_enc 3 1 8 5 rfl rfl (by simp) (by simp [maxLen]; omega) (by simp; omega)]
        simp only [bR, Nat.reduceEqDiff, reduceIte, Int.reduceBNe, Int.reduceBEq]
        refine .done (hK _ ?_); clear hK K; simp only [thenQ, blockQ]
        refine AW.reg cd84_6 fun K hK => ?_
        simp only [g84_6, bR, Nat.reduceEqDiff, reduceIte, Int.reduceBNe, Int.reduceBEq]
        refine .done (hK _ ?_); clear hK K; simp only [thenQ, blockQ]
        refine ⟨i + 1, by omega, by omega, ?_⟩
        rw [wrap_id _ (by omega) (by omega), htake, if_pos (by simpa using h)]
        refine Sub.of_lists ?_ ?_ ?_ ?_ <;> simp [subT, subO, onlyT, onlyO, isIn, look_cons, lookO_cons, lookO_nil, AV.only, AV.onlys, AO.only, onlys_map, onlys_append, e_only, e_int, e_bool]
      · refine AW.skip ?_; simp only [thenQ, blockQ, reduceIte, Nat.reduceEqDiff]
        refine AW.reg cd84_6 fun K hK => ?_
        simp only [g84_6, bR, Nat.reduceEqDiff, reduceIte, Int.reduceBNe, Int.reduceBEq]
        refine .done (hK _ ?_); clear hK K; simp only [thenQ, blockQ]
        refine ⟨i + 1, by omega, by omega, ?_⟩
        rw [wrap_id _ (by omega) (by omega), htake, if_neg (by simpa using h), List.append_nil]
        refine Sub.of_lists ?_ ?_ ?_ ?_ <;> simp [subT, subO, onlyT, onlyO, isIn, look_cons, lookO_cons, lookO_nil, AV.only, AV.onlys, AO.only, onlys_map, onlys_append, e_only, e_int, e_bool]
    · have hge : i = m.given.length := by simp at h; omega
      subst hge
      simp only [List.take_length]
      refine AW.exit ?_; simp only [thenQ, blockQ, reduceIte, Nat.reduceEqDiff]
      refine AW.seq (AW.reg cd84_7 fun K hK => ?_)
      simp only [g84_7, bR, Nat.reduceEqDiff, reduceIte, Int.reduceBNe, Int.reduceBEq]
      refine .done (hK _ ?_); clear hK K; simp only [thenQ, blockQ]
      refine AW.ret ?_
      simp only [blockQ, thenQ, bR, Nat.reduceEqDiff, reduceIte, Int.reduceBNe, Int.reduceBEq]

theorem F83 (m : Marks) (k : Arr 6 Int) (hm : okBook m) (hk : okMark k = true) : Ctr Try.prog 83 [enc m, enc k] (enc (m.given.any fun g => decide ((cnt (apartAt m.wear g.mark k) 6 : Int) ≤ IntKind.i64.wrap (2 * m.fls)))) := by
  refine Ctr.mk' Try.func83 ca83 cc83 cr83 (Nat.le_of_ble_eq_true rfl) (fun hwf W0 D0 E1 => ?_)
  simp only [c83, r83, idx, Nat.zero_add, Nat.reduceAdd]
  have hlen := hm.len
  refine AW.seq (AW.reg cd83_0 fun K hK => ?_)
  simp only [g83_0, bR, Nat.reduceEqDiff, reduceIte, Int.reduceBNe, Int.reduceBEq]
  refine .done (hK _ ?_); clear hK K; simp only [thenQ, blockQ]
  refine AW.seq ?_
  refine AW.seq (AW.reg cd83_1 fun K hK => ?_)
  simp only [g83_1, bR, Nat.reduceEqDiff, reduceIte, Int.reduceBNe, Int.reduceBEq]
  refine .done (hK _ ?_); clear hK K; simp only [thenQ, blockQ]
  refine AW.block (AW.loop (fun i : Nat => mkA [(2, .ptr 2 []), (3, .ptr 3 []), (5, .int .i64 i)] [(2, .box (enc m)), (3, .box (enc k))]) (fun i => i ≤ m.given.length ∧ ∀ j (h : j < m.given.length), j < i → (decide ((cnt (apartAt m.wear m.given[j].mark k) 6 : Int) ≤ IntKind.i64.wrap (2 * m.fls))) = false) (fun i => m.given.length - i) 0 ⟨by omega, fun k _ h => by omega⟩ ?_ (fun i hi => ?_))
  · refine Sub.of_lists ?_ ?_ ?_ ?_ <;> simp [subT, subO, onlyT, onlyO, isIn, look_cons, lookO_cons, lookO_nil, AV.only, AV.onlys, AO.only, onlys_map, onlys_append, e_only, e_int, e_bool]
  · refine AW.seq (AW.seq ?_)
    refine AW.reg cd83_2 fun K hK => ?_
    simp only [g83_2, bR, Nat.reduceEqDiff, reduceIte, Int.reduceBNe, Int.reduceBEq]
    simp only [typR, useR, okR, bR, Nat.reduceEqDiff, reduceIte, Int.reduceBNe, Int.reduceBEq]
    refine .done (hK _ ?_); clear hK K; simp only [thenQ, blockQ]
    refine AW.ite ?_
    simp only [condQ, bR, Nat.reduceEqDiff, reduceIte, Int.reduceBNe, Int.reduceBEq]
    refine ⟨fun h => ?_, fun h => ?_⟩
    · have hlt : i < m.given.length := by simpa using h
      refine AW.skip ?_; simp only [thenQ, blockQ, reduceIte, Nat.reduceEqDiff]
      refine AW.seq (AW.block ?_)
      refine AW.seq (AW.reg cd83_3 fun K hK => ?_)
      simp only [g83_3, bR, Nat.reduceEqDiff, reduceIte, Int.reduceBNe, Int.reduceBEq]
      simp only [typR, useR, okR, isE_nat 7 hlt rfl, e_fin, bR, Nat.reduceEqDiff, reduceIte, Int.reduceBNe, Int.reduceBEq]
      refine .flat _ (F99 m.wear m.given[i].mark k (hm.mark _ (List.getElem_mem _)) hk) rfl ?_
      simp only [typR, useR, okR, isE_nat 7 hlt rfl, bR, Nat.reduceEqDiff, reduceIte, Int.reduceBNe, Int.reduceBEq]
      refine .done (hK _ ?_); clear hK K; simp only [thenQ, blockQ]
      refine AW.ite ?_
      simp only [condQ, bR, Nat.reduceEqDiff, reduceIte, Int.reduceBNe, Int.reduceBEq]
      refine ⟨fun h => ?_, fun h => ?_⟩
      · refine AW.seq (AW.reg cd83_4 fun K hK => ?_)
        simp only [g83_4, bR, Nat.reduceEqDiff, reduceIte, Int.reduceBNe, Int.reduceBEq]
        refine .done (hK _ ?_); clear hK K; simp only [thenQ, blockQ]
        refine AW.ret ?_
        simp only [blockQ, thenQ, bR, Nat.reduceEqDiff, reduceIte, Int.reduceBNe, Int.reduceBEq]
        have : (m.given.any fun g => decide ((cnt (apartAt m.wear g.mark k) 6 : Int) ≤ IntKind.i64.wrap (2 * m.fls))) = true := List.any_eq_true.2 ⟨_, List.getElem_mem hlt, h⟩
        rw [this]
      · refine AW.skip ?_; simp only [thenQ, blockQ, reduceIte, Nat.reduceEqDiff]
        refine AW.reg cd83_5 fun K hK => ?_
        simp only [g83_5, bR, Nat.reduceEqDiff, reduceIte, Int.reduceBNe, Int.reduceBEq]
        refine .done (hK _ ?_); clear hK K; simp only [thenQ, blockQ]
        refine ⟨i + 1, ⟨by omega, fun j hj hji => ?_⟩, by omega, ?_⟩
        · by_cases hj' : j = i
          · subst hj'; exact h
          · exact hi.2 j hj (by omega)
        · rw [wrap_id _ (by omega) (by omega)]
          refine Sub.of_lists ?_ ?_ ?_ ?_ <;> simp [subT, subO, onlyT, onlyO, isIn, look_cons, lookO_cons, lookO_nil, AV.only, AV.onlys, AO.only, onlys_map, onlys_append, e_only, e_int, e_bool]
    · have hge : i = m.given.length := by simp at h; omega
      refine AW.exit ?_; simp only [thenQ, blockQ, reduceIte, Nat.reduceEqDiff]
      refine AW.seq (AW.reg cd83_6 fun K hK => ?_)
      simp only [g83_6, bR, Nat.reduceEqDiff, reduceIte, Int.reduceBNe, Int.reduceBEq]
      refine .done (hK _ ?_); clear hK K; simp only [thenQ, blockQ]
      refine AW.ret ?_
      simp only [blockQ, thenQ, bR, Nat.reduceEqDiff, reduceIte, Int.reduceBNe, Int.reduceBEq]
      have : (m.given.any fun g => decide ((cnt (apartAt m.wear g.mark k) 6 : Int) ≤ IntKind.i64.wrap (2 * m.fls))) = false := by
        rw [List.any_eq_false]
        intro x hx
        obtain ⟨j, hj, rfl⟩ := List.getElem_of_mem hx
        simpa using hi.2 j hj (by omega)
      rw [this]

end Go.Proofs.Ytkjkbpgdpnapfaa

/-
  THE REFERENCE'S CHECK OF A BOOK OF MARKS, BY CONTRACT.
-/
namespace Go.Proofs.Ytkjkbpgdpnapfaa
open Go Go.Abs
open Go.Abs.Enc (enc)

def gv (m : Marks) (i : Nat) : Given := m.given.getD i ⟨0, ⟨List.replicate 6 0, rfl⟩⟩
theorem gv_eq {m : Marks} {i : Nat} (h : i < m.given.length) : m.given[i] = gv m i := by simp [gv, List.getD_eq_getElem?_getD, h]
theorem isE_gv {A : AState} {m : Marks} {i : Nat} (h : i < m.given.length) : isE A 7 (i : Int) (enc m.given) = some (.ref (enc (gv m i))) := by
  rw [isE_nat 7 h rfl, gv_eq h]

def okWear (w : Arr 5 Int) : Bool := (List.range 5).all (fun i => inR 0 31 (w.g i) && bit (w.g i) i)
theorem F44' (w : Arr 5 Int) : Ctr Try.prog 44 [enc w] (enc (if okWear w then (0 : Int) else 11)) := F44 w
theorem F42' (m : Arr 6 Int) : Ctr Try.prog 42 [enc m] (enc (if okMark m then (0 : Int) else 10)) := F42 m
theorem F94' (n lo hi : Int) : Ctr Try.prog 94 [enc n, enc lo, enc hi] (enc (inR lo hi n)) := F94 n lo hi

def tooNear (m : Marks) (a b : Arr 6 Int) : Bool := decide ((cnt (apartAt m.wear a b) 6 : Int) ≤ IntKind.i64.wrap (2 * m.fls))
def okAt (m : Marks) (i : Nat) : Bool := inR 1 99 (gv m i).owner && (okMark (gv m i).mark && ((i == 0 || decide ((gv m (i - 1)).owner < (gv m i).owner)) && (List.range i).all (fun j => !tooNear m (gv m j).mark (gv m i).mark)))
/-- What the check asks of a book. -/
def okM (m : Marks) : Bool := okWear m.wear && (inR 0 2 m.fls && (decide (m.given.length ≤ 40) && (List.range m.given.length).all (okAt m)))

theorem okAt_mark {m : Marks} {i : Nat} (h : okAt m i = true) : okMark (gv m i).mark = true := by
  simp only [okAt, Bool.and_eq_true] at h
  exact h.2.1

theorem F48 (m : Marks) : Ctr Try.prog 48 [enc m] (enc (if okM m then (0 : Int) else 13)) := by
  refine Ctr.mk' Try.func48 ca48 cc48 cr48 (Nat.le_of_ble_eq_true rfl) (fun hwf W0 D0 E1 => ?_)
  simp only [c48, r48, idx, Nat.zero_add, Nat.reduceAdd]
  refine AW.seq (AW.reg cd48_0 fun K hK => ?_)
  simp only [g48_0, bR, Nat.reduceEqDiff, reduceIte, Int.reduceBNe, Int.reduceBEq]
  refine .done (hK _ ?_); clear hK K; simp only [thenQ, blockQ]
  refine AW.seq (AW.seq ?_)
  refine AW.reg cd48_1 fun K hK => ?_
  simp only [g48_1, bR, Nat.reduceEqDiff, reduceIte, Int.reduceBNe, Int.reduceBEq]
  simp only [typR, useR, okR, e_fin, bR, Nat.reduceEqDiff, reduceIte, Int.reduceBNe, Int.reduceBEq]
  refine .flat _ (F44' m.wear) rfl ?_
  generalize hw : okWear m.wear = bw
  cases bw
  · simp only [typR, useR, okR, bR, Nat.reduceEqDiff, reduceIte, Int.reduceBNe, Int.reduceBEq]
    refine .done (hK _ ?_); clear hK K; simp only [thenQ, blockQ]
    refine AW.ite ?_
    simp only [condQ, bR, Nat.reduceEqDiff, reduceIte, Int.reduceBNe, Int.reduceBEq]
    refine ⟨fun h => ?_, fun h => ?_⟩
    · refine AW.seq (AW.reg cd48_2 fun K hK => ?_)
      simp only [g48_2, bR, Nat.reduceEqDiff, reduceIte, Int.reduceBNe, Int.reduceBEq]
      refine .done (hK _ ?_); clear hK K; simp only [thenQ, blockQ]
      refine AW.ret ?_
      simp only [blockQ, thenQ, bR, Nat.reduceEqDiff, reduceIte, Int.reduceBNe, Int.reduceBEq]
      simp [okM, hw]
    · cases h
  simp only [typR, useR, okR, bR, Nat.reduceEqDiff, reduceIte, Int.reduceBNe, Int.reduceBEq]
  refine .flat _ (F94' m.fls 0 2) rfl ?_
  generalize hf : inR 0 2 m.fls = bf
  cases bf
  · simp only [typR, useR, okR, bR, Nat.reduceEqDiff, reduceIte, Int.reduceBNe, Int.reduceBEq]
    refine .done (hK _ ?_); clear hK K; simp only [thenQ, blockQ]
    refine AW.ite ?_
    simp only [condQ, bR, Nat.reduceEqDiff, reduceIte, Int.reduceBNe, Int.reduceBEq]
    refine ⟨fun h => ?_, fun h => ?_⟩
    · refine AW.seq (AW.reg cd48_2 fun K hK => ?_)
      simp only [g48_2, bR, Nat.reduceEqDiff, reduceIte, Int.reduceBNe, Int.reduceBEq]
      refine .done (hK _ ?_); clear hK K; simp only [thenQ, blockQ]
      refine AW.ret ?_
      simp only [blockQ, thenQ, bR, Nat.reduceEqDiff, reduceIte, Int.reduceBNe, Int.reduceBEq]
      simp [okM, hw, hf]
    · cases h
  simp only [typR, useR, okR, bR, Nat.reduceEqDiff, reduceIte, Int.reduceBNe, Int.reduceBEq]
  refine .done (hK _ ?_); clear hK K; simp only [thenQ, blockQ]
  refine AW.ite ?_
  simp only [condQ, bR, Nat.reduceEqDiff, reduceIte, Int.reduceBNe, Int.reduceBEq]
  refine ⟨fun h => ?_, fun h => ?_⟩
  · refine AW.seq (AW.reg cd48_2 fun K hK => ?_)
    simp only [g48_2, bR, Nat.reduceEqDiff, reduceIte, Int.reduceBNe, Int.reduceBEq]
    refine .done (hK _ ?_); clear hK K; simp only [thenQ, blockQ]
    refine AW.ret ?_
    simp only [blockQ, thenQ, bR, Nat.reduceEqDiff, reduceIte, Int.reduceBNe, Int.reduceBEq]
    have : ¬ m.given.length ≤ 40 := by simp at h; omega
    simp [okM, hw, hf, this]
  have hlen : m.given.length ≤ 40 := by simp at h; omega
  refine AW.skip ?_; simp only [thenQ, blockQ, reduceIte, Nat.reduceEqDiff]
  refine AW.seq (AW.seq ?_)
  refine AW.reg cd48_3 fun K hK => ?_
  simp only [g48_3, bR, Nat.reduceEqDiff, reduceIte, Int.reduceBNe, Int.reduceBEq]
  refine .done (hK _ ?_); clear hK K; simp only [thenQ, blockQ]
  refine AW.block (AW.loop (fun i : Nat => mkA [(1, .ptr 1 []), (3, .int .i64 i)] [(1, .box (enc m))]) (fun i => i ≤ m.given.length ∧ ∀ j, j < i → okAt m j = true) (fun i => m.given.length - i) 0 ⟨by omega, fun k h => by omega⟩ ?_ (fun i hi => ?_))
  · refine Sub.of_lists ?_ ?_ ?_ ?_ <;> simp [subT, subO, onlyT, onlyO, isIn, look_cons, lookO_cons, lookO_nil, AV.only, AV.onlys, AO.only, onlys_map, onlys_append, e_only, e_int, e_bool]
  refine AW.seq (AW.seq ?_)
  refine AW.reg cd48_4 fun K hK => ?_
  simp only [g48_4, bR, Nat.reduceEqDiff, reduceIte, Int.reduceBNe, Int.reduceBEq]
  simp only [typR, useR, okR, bR, Nat.reduceEqDiff, reduceIte, Int.reduceBNe, Int.reduceBEq]
  refine .done (hK _ ?_); clear hK K; simp only [thenQ, blockQ]
  refine AW.ite ?_
  simp only [condQ, bR, Nat.reduceEqDiff, reduceIte, Int.reduceBNe, Int.reduceBEq]
  refine ⟨fun h => ?_, fun h => ?_⟩
  case refine_2.refine_2 =>
    have hge : i = m.given.length := by simp at h; omega
    subst hge
    refine AW.exit ?_; simp only [thenQ, blockQ, reduceIte, Nat.reduceEqDiff]
    refine AW.seq (AW.reg cd48_14 fun K hK => ?_)
    simp only [g48_14, bR, Nat.reduceEqDiff, reduceIte, Int.reduceBNe, Int.reduceBEq]
    refine .done (hK _ ?_); clear hK K; simp only [thenQ, blockQ]
    refine AW.ret ?_
    simp only [blockQ, thenQ, bR, Nat.reduceEqDiff, reduceIte, Int.reduceBNe, Int.reduceBEq]
    have : (List.range m.given.length).all (okAt m) = true := all_true hi.2
    simp [okM, hw, hf, this, hlen]
  have hlt : i < m.given.length := by simpa using h
  refine AW.skip ?_; simp only [thenQ, blockQ, reduceIte, Nat.reduceEqDiff]
  refine AW.seq (AW.block ?_)
  refine AW.seq (AW.reg cd48_5 fun K hK => ?_)
  simp only [g48_5, bR, Nat.reduceEqDiff, reduceIte, Int.reduceBNe, Int.reduceBEq]
  simp only [typR, useR, okR, isE_gv hlt, bR, Nat.reduceEqDiff, reduceIte, Int.reduceBNe, Int.reduceBEq]
  rw [stR3_ok (e_isVal _) (by rw [e_okS]; rfl) ((e_sh _).trans rfl)]
  simp only [typR, useR, okR, bR, Nat.reduceEqDiff, reduceIte, Int.reduceBNe, Int.reduceBEq]
  refine .done (hK _ ?_); clear hK K; simp only [thenQ, blockQ]
  -- what is said of the mark at i alone
  have bad : ∀ b, okAt m i = b → b = false → (if okM m then (0 : Int) else 13) = 13 := fun b h1 h2 => by
    have : (List.range m.given.length).all (okAt m) = false := all_false i hlt (by rw [h1, h2])
    simp [okM, this]
  refine AW.seq (AW.seq ?_)
  refine AW.reg cd48_6 fun K hK => ?_
  simp only [g48_6, bR, Nat.reduceEqDiff, reduceIte, Int.reduceBNe, Int.reduceBEq]
  simp only [typR, useR, okR, e_fin, bR, Nat.reduceEqDiff, reduceIte, Int.reduceBNe, Int.reduceBEq]
  refine .flat _ (F94' (gv m i).owner 1 99) rfl ?_
  generalize ho : inR 1 99 (gv m i).owner = bo
  cases bo
  · simp only [typR, useR, okR, bR, Nat.reduceEqDiff, reduceIte, Int.reduceBNe, Int.reduceBEq]
    refine .done (hK _ ?_); clear hK K; simp only [thenQ, blockQ]
    refine AW.ite ?_
    simp only [condQ, bR, Nat.reduceEqDiff, reduceIte, Int.reduceBNe, Int.reduceBEq]
    refine ⟨fun h => ?_, fun h => ?_⟩
    · refine AW.seq (AW.reg cd48_7 fun K hK => ?_)
      simp only [g48_7, bR, Nat.reduceEqDiff, reduceIte, Int.reduceBNe, Int.reduceBEq]
      refine .done (hK _ ?_); clear hK K; simp only [thenQ, blockQ]
      refine AW.ret ?_
      simp only [blockQ, thenQ, bR, Nat.reduceEqDiff, reduceIte, Int.reduceBNe, Int.reduceBEq]
      rw [bad _ rfl (by simp [okAt, ho])]
    · cases h
  simp only [typR, useR, okR, e_fin, bR, Nat.reduceEqDiff, reduceIte, Int.reduceBNe, Int.reduceBEq]
  refine .flat _ (F42' (gv m i).mark) rfl ?_
  generalize hk : okMark (gv m i).mark = bk
  cases bk
  · simp only [typR, useR, okR, bR, Nat.reduceEqDiff, reduceIte, Int.reduceBNe, Int.reduceBEq]
    refine .done (hK _ ?_); clear hK K; simp only [thenQ, blockQ]
    refine AW.ite ?_
    simp only [condQ, bR, Nat.reduceEqDiff, reduceIte, Int.reduceBNe, Int.reduceBEq]
    refine ⟨fun h => ?_, fun h => ?_⟩
    · refine AW.seq (AW.reg cd48_7 fun K hK => ?_)
      simp only [g48_7, bR, Nat.reduceEqDiff, reduceIte, Int.reduceBNe, Int.reduceBEq]
      refine .done (hK _ ?_); clear hK K; simp only [thenQ, blockQ]
      refine AW.ret ?_
      simp only [blockQ, thenQ, bR, Nat.reduceEqDiff, reduceIte, Int.reduceBNe, Int.reduceBEq]
      rw [bad _ rfl (by simp [okAt, ho, hk])]
    · cases h
  simp only [typR, useR, okR, bR, Nat.reduceEqDiff, reduceIte, Int.reduceBNe, Int.reduceBEq]
  generalize hz : decide (0 < (i : Int)) = bz
  cases bz
  · have hprev : (i == 0 || decide ((gv m (i - 1)).owner < (gv m i).owner)) = true := by simp at hz; simp [hz]
    simp only [typR, useR, okR, bR, Nat.reduceEqDiff, reduceIte, Int.reduceBNe, Int.reduceBEq]
    refine .done (hK _ ?_); clear hK K; simp only [thenQ, blockQ]
    refine AW.ite ?_
    simp only [condQ, bR, Nat.reduceEqDiff, reduceIte, Int.reduceBNe, Int.reduceBEq]
    refine ⟨fun h => ?_, fun h => ?_⟩
    · cases h
    refine AW.skip ?_; simp only [thenQ, blockQ, reduceIte, Nat.reduceEqDiff]
    refine AW.seq (AW.reg cd48_8 fun K hK => ?_)
    simp only [g48_8, bR, Nat.reduceEqDiff, reduceIte, Int.reduceBNe, Int.reduceBEq]
    refine .done (hK _ ?_); clear hK K; simp only [thenQ, blockQ]
    refine AW.block (AW.loop (fun j : Nat => mkA [(1, .ptr 1 []), (3, .int .i64 i), (4, .ptr 4 []), (5, .int .i64 j)] [(1, .box (enc m)), (4, .box (enc (gv m i)))]) (fun j => j ≤ i ∧ ∀ k, k < j → (!tooNear m (gv m k).mark (gv m i).mark) = true) (fun j => i - j) 0 ⟨by omega, fun k h => by omega⟩ ?_ (fun j hj => ?_))
    · refine Sub.of_lists ?_ ?_ ?_ ?_ <;> simp [subT, subO, onlyT, onlyO, isIn, look_cons, lookO_cons, lookO_nil, AV.only, AV.onlys, AO.only, onlys_map, onlys_append, e_only, e_int, e_bool]
    refine AW.seq (AW.seq ?_)
    refine AW.reg cd48_9 fun K hK => ?_
    simp only [g48_9, bR, Nat.reduceEqDiff, reduceIte, Int.reduceBNe, Int.reduceBEq]
    refine .done (hK _ ?_); clear hK K; simp only [thenQ, blockQ]
    refine AW.ite ?_
    simp only [condQ, bR, Nat.reduceEqDiff, reduceIte, Int.reduceBNe, Int.reduceBEq]
    refine ⟨fun h => ?_, fun h => ?_⟩
    · have hji : j < i := by simp at h; omega
      have hjl : j < m.given.length := by omega
      refine AW.skip ?_; simp only [thenQ, blockQ, reduceIte, Nat.reduceEqDiff]
      refine AW.seq (AW.block ?_)
      refine AW.seq (AW.reg cd48_10 fun K hK => ?_)
      simp only [g48_10, bR, Nat.reduceEqDiff, reduceIte, Int.reduceBNe, Int.reduceBEq]
      simp only [typR, useR, okR, isE_gv hjl, e_fin, bR, Nat.reduceEqDiff, reduceIte, Int.reduceBNe, Int.reduceBEq]
      refine .flat _ (F99 m.wear (gv m j).mark (gv m i).mark (okAt_mark (hi.2 j hji)) hk) rfl ?_
      simp only [typR, useR, okR, bR, Nat.reduceEqDiff, reduceIte, Int.reduceBNe, Int.reduceBEq]
      refine .done (hK _ ?_); clear hK K; simp only [thenQ, blockQ]
      refine AW.ite ?_
      simp only [condQ, bR, Nat.reduceEqDiff, reduceIte, Int.reduceBNe, Int.reduceBEq]
      refine ⟨fun h => ?_, fun h => ?_⟩
      · refine AW.seq (AW.reg cd48_11 fun K hK => ?_)
        simp only [g48_11, bR, Nat.reduceEqDiff, reduceIte, Int.reduceBNe, Int.reduceBEq]
        refine .done (hK _ ?_); clear hK K; simp only [thenQ, blockQ]
        refine AW.ret ?_
        simp only [blockQ, thenQ, bR, Nat.reduceEqDiff, reduceIte, Int.reduceBNe, Int.reduceBEq]
        have hn : tooNear m (gv m j).mark (gv m i).mark = true := h
        have : (List.range i).all (fun j => !tooNear m (gv m j).mark (gv m i).mark) = false := all_false j hji (by rw [hn]; rfl)
        rw [bad _ rfl (by simp only [okAt, this, Bool.and_false])]
      · refine AW.skip ?_; simp only [thenQ, blockQ, reduceIte, Nat.reduceEqDiff]
        refine AW.reg cd48_12 fun K hK => ?_
        simp only [g48_12, bR, Nat.reduceEqDiff, reduceIte, Int.reduceBNe, Int.reduceBEq]
        refine .done (hK _ ?_); clear hK K; simp only [thenQ, blockQ]
        refine ⟨j + 1, ⟨by omega, fun k hk' => ?_⟩, by omega, ?_⟩
        · by_cases hkj : k = j
          · subst hkj
            have hn : tooNear m (gv m k).mark (gv m i).mark = false := h
            rw [hn]; rfl
          · exact hj.2 k (by omega)
        · rw [wrap_id _ (by omega) (by omega)]
          refine Sub.of_lists ?_ ?_ ?_ ?_ <;> simp [subT, subO, onlyT, onlyO, isIn, look_cons, lookO_cons, lookO_nil, AV.only, AV.onlys, AO.only, onlys_map, onlys_append, e_only, e_int, e_bool]
    · have hji : j = i := by simp at h; omega
      refine AW.exit ?_; simp only [thenQ, blockQ, reduceIte, Nat.reduceEqDiff]
      refine AW.reg cd48_13 fun K hK => ?_
      simp only [g48_13, bR, Nat.reduceEqDiff, reduceIte, Int.reduceBNe, Int.reduceBEq]
      refine .done (hK _ ?_); clear hK K; simp only [thenQ, blockQ]
      refine ⟨i + 1, ⟨by omega, fun k hk' => ?_⟩, by omega, ?_⟩
      · by_cases hki : k = i
        · have : (List.range i).all (fun j => !tooNear m (gv m j).mark (gv m i).mark) = true := all_true fun k hk => hj.2 k (by omega)
          rw [hki]
          simp only [okAt, ho, hk, hprev, this, Bool.and_self]
        · exact hi.2 k (by omega)
      · rw [wrap_id _ (by omega) (by omega)]
        refine Sub.of_lists ?_ ?_ ?_ ?_ <;> simp [subT, subO, onlyT, onlyO, isIn, look_cons, lookO_cons, lookO_nil, AV.only, AV.onlys, AO.only, onlys_map, onlys_append, e_only, e_int, e_bool]
  · have hpos : 0 < i := by simpa using hz
    have hpl : i - 1 < m.given.length := by omega
    have hpred : IntKind.i64.wrap ((i : Int) - 1) = ((i - 1 : Nat) : Int) := by rw [wrap_id _ (by omega) (by omega)]; omega
    simp only [typR, useR, okR, hpred, isE_gv hpl, bR, Nat.reduceEqDiff, reduceIte, Int.reduceBNe, Int.reduceBEq]
    refine .done (hK _ ?_); clear hK K; simp only [thenQ, blockQ]
    refine AW.ite ?_
    simp only [condQ, bR, Nat.reduceEqDiff, reduceIte, Int.reduceBNe, Int.reduceBEq]
    refine ⟨fun h => ?_, fun h => ?_⟩
    · refine AW.seq (AW.reg cd48_7 fun K hK => ?_)
      simp only [g48_7, bR, Nat.reduceEqDiff, reduceIte, Int.reduceBNe, Int.reduceBEq]
      refine .done (hK _ ?_); clear hK K; simp only [thenQ, blockQ]
      refine AW.ret ?_
      simp only [blockQ, thenQ, bR, Nat.reduceEqDiff, reduceIte, Int.reduceBNe, Int.reduceBEq]
      have : (i == 0 || decide ((gv m (i - 1)).owner < (gv m i).owner)) = false := by simp at h; simp; omega
      rw [bad _ rfl (by simp only [okAt, this, Bool.and_false, Bool.false_and])]
    have hprev : (i == 0 || decide ((gv m (i - 1)).owner < (gv m i).owner)) = true := by simp at h; simp; omega
    refine AW.skip ?_; simp only [thenQ, blockQ, reduceIte, Nat.reduceEqDiff]
    refine AW.seq (AW.reg cd48_8 fun K hK => ?_)
    simp only [g48_8, bR, Nat.reduceEqDiff, reduceIte, Int.reduceBNe, Int.reduceBEq]
    refine .done (hK _ ?_); clear hK K; simp only [thenQ, blockQ]
    refine AW.block (AW.loop (fun j : Nat => mkA [(1, .ptr 1 []), (3, .int .i64 i), (4, .ptr 4 []), (5, .int .i64 j)] [(1, .box (enc m)), (4, .box (enc (gv m i)))]) (fun j => j ≤ i ∧ ∀ k, k < j → (!tooNear m (gv m k).mark (gv m i).mark) = true) (fun j => i - j) 0 ⟨by omega, fun k h => by omega⟩ ?_ (fun j hj => ?_))
    · refine Sub.of_lists ?_ ?_ ?_ ?_ <;> simp [subT, subO, onlyT, onlyO, isIn, look_cons, lookO_cons, lookO_nil, AV.only, AV.onlys, AO.only, onlys_map, onlys_append, e_only, e_int, e_bool]
    refine AW.seq (AW.seq ?_)
    refine AW.reg cd48_9 fun K hK => ?_
    simp only [g48_9, bR, Nat.reduceEqDiff, reduceIte, Int.reduceBNe, Int.reduceBEq]
    refine .done (hK _ ?_); clear hK K; simp only [thenQ, blockQ]
    refine AW.ite ?_
    simp only [condQ, bR, Nat.reduceEqDiff, reduceIte, Int.reduceBNe, Int.reduceBEq]
    refine ⟨fun h => ?_, fun h => ?_⟩
    · have hji : j < i := by simp at h; omega
      have hjl : j < m.given.length := by omega
      refine AW.skip ?_; simp only [thenQ, blockQ, reduceIte, Nat.reduceEqDiff]
      refine AW.seq (AW.block ?_)
      refine AW.seq (AW.reg cd48_10 fun K hK => ?_)
      simp only [g48_10, bR, Nat.reduceEqDiff, reduceIte, Int.reduceBNe, Int.reduceBEq]
      simp only [typR, useR, okR, isE_gv hjl, e_fin, bR, Nat.reduceEqDiff, reduceIte, Int.reduceBNe, Int.reduceBEq]
      refine .flat _ (F99 m.wear (gv m j).mark (gv m i).mark (okAt_mark (hi.2 j hji)) hk) rfl ?_
      simp only [typR, useR, okR, bR, Nat.reduceEqDiff, reduceIte, Int.reduceBNe, Int.reduceBEq]
      refine .done (hK _ ?_); clear hK K; simp only [thenQ, blockQ]
      refine AW.ite ?_
      simp only [condQ, bR, Nat.reduceEqDiff, reduceIte, Int.reduceBNe, Int.reduceBEq]
      refine ⟨fun h => ?_, fun h => ?_⟩
      · refine AW.seq (AW.reg cd48_11 fun K hK => ?_)
        simp only [g48_11, bR, Nat.reduceEqDiff, reduceIte, Int.reduceBNe, Int.reduceBEq]
        refine .done (hK _ ?_); clear hK K; simp only [thenQ, blockQ]
        refine AW.ret ?_
        simp only [blockQ, thenQ, bR, Nat.reduceEqDiff, reduceIte, Int.reduceBNe, Int.reduceBEq]
        have hn : tooNear m (gv m j).mark (gv m i).mark = true := h
        have : (List.range i).all (fun j => !tooNear m (gv m j).mark (gv m i).mark) = false := all_false j hji (by rw [hn]; rfl)
        rw [bad _ rfl (by simp only [okAt, this, Bool.and_false])]
      · refine AW.skip ?_; simp only [thenQ, blockQ, reduceIte, Nat.reduceEqDiff]
        refine AW.reg cd48_12 fun K hK => ?_
        simp only [g48_12, bR, Nat.reduceEqDiff, reduceIte, Int.reduceBNe, Int.reduceBEq]
        refine .done (hK _ ?_); clear hK K; simp only [thenQ, blockQ]
        refine ⟨j + 1, ⟨by omega, fun k hk' => ?_⟩, by omega, ?_⟩
        · by_cases hkj : k = j
          · subst hkj
            have hn : tooNear m (gv m k).mark (gv m i).mark = false := h
            rw [hn]; rfl
          · exact hj.2 k (by omega)
        · rw [wrap_id _ (by omega) (by omega)]
          refine Sub.of_lists ?_ ?_ ?_ ?_ <;> simp [subT, subO, onlyT, onlyO, isIn, look_cons, lookO_cons, lookO_nil, AV.only, AV.onlys, AO.only, onlys_map, onlys_append, e_only, e_int, e_bool]
    · have hji : j = i := by simp at h; omega
      refine AW.exit ?_; simp only [thenQ, blockQ, reduceIte, Nat.reduceEqDiff]
      refine AW.reg cd48_13 fun K hK => ?_
      simp only [g48_13, bR, Nat.reduceEqDiff, reduceIte, Int.reduceBNe, Int.reduceBEq]
      refine .done (hK _ ?_); clear hK K; simp only [thenQ, blockQ]
      refine ⟨i + 1, ⟨by omega, fun k hk' => ?_⟩, by omega, ?_⟩
      · by_cases hki : k = i
        · have : (List.range i).all (fun j => !tooNear m (gv m j).mark (gv m i).mark) = true := all_true fun k hk => hj.2 k (by omega)
          rw [hki]
          simp only [okAt, ho, hk, hprev, this, Bool.and_self]
        · exact hi.2 k (by omega)
      · rw [wrap_id _ (by omega) (by omega)]
        refine Sub.of_lists ?_ ?_ ?_ ?_ <;> simp [subT, subO, onlyT, onlyO, isIn, look_cons, lookO_cons, lookO_nil, AV.only, AV.onlys, AO.only, onlys_map, onlys_append, e_only, e_int, e_bool]

end Go.Proofs.Ytkjkbpgdpnapfaa

/-
  FUNCTIONS OF THE REFERENCE BY CONTRACT: asked, Owners, Owner, MarkOf.
-/
namespace Go.Proofs.Ytkjkbpgdpnapfaa
open Go Go.Abs
open Go.Abs.Enc (enc)

theorem okM_book {m : Marks} (h : okM m = true) : okBook m := by
  simp only [okM, Bool.and_eq_true, decide_eq_true_eq, List.all_eq_true, List.mem_range] at h
  refine ⟨by omega, fun g hg => ?_⟩
  obtain ⟨i, hi, rfl⟩ := List.getElem_of_mem hg
  rw [gv_eq hi]
  exact okAt_mark (h.2.2.2 i hi)

def okReading (r : Arr 6 Int) : Bool := (List.range 6).all fun i => inR 1 31 (r.g i)
theorem F46' (m : Arr 6 Int) : Ctr Try.prog 46 [enc m] (enc (if okReading m then (0 : Int) else 12)) := F46 m

def askedOf (m : Marks) (o : Int) : Int := if okM m then (if inR 1 99 o then 0 else 15) else 13

theorem F92 (m : Marks) (o : Int) : Ctr Try.prog 92 [enc m, enc o] (enc (askedOf m o)) := by
  refine Ctr.mk' Try.func92 ca92 cc92 cr92 (Nat.le_of_ble_eq_true rfl) (fun hwf W0 D0 E1 => ?_)
  simp only [c92, r92, idx, Nat.zero_add, Nat.reduceAdd]
  refine AW.seq (AW.reg cd92_0 fun K hK => ?_)
  simp only [g92_0, bR, Nat.reduceEqDiff, reduceIte, Int.reduceBNe, Int.reduceBEq]
  refine .done (hK _ ?_); clear hK K; simp only [thenQ, blockQ]
  refine AW.seq (AW.seq ?_)
  refine AW.reg cd92_1 fun K hK => ?_
  simp only [g92_1, bR, Nat.reduceEqDiff, reduceIte, Int.reduceBNe, Int.reduceBEq]
  simp only [typR, useR, okR, e_fin, bR, Nat.reduceEqDiff, reduceIte, Int.reduceBNe, Int.reduceBEq]
  refine .flat _ (F48 m) rfl ?_
  generalize hm : okM m = bm
  cases bm
  · simp only [typR, useR, okR, bR, Nat.reduceEqDiff, reduceIte, Int.reduceBNe, Int.reduceBEq]
    refine .done (hK _ ?_); clear hK K; simp only [thenQ, blockQ]
    refine AW.ite ?_
    simp only [condQ, bR, Nat.reduceEqDiff, reduceIte, Int.reduceBNe, Int.reduceBEq]
    refine ⟨fun h => ?_, fun h => ?_⟩
    · refine AW.seq (AW.reg cd92_2 fun K hK => ?_)
      simp only [g92_2, bR, Nat.reduceEqDiff, reduceIte, Int.reduceBNe, Int.reduceBEq]
      refine .done (hK _ ?_); clear hK K; simp only [thenQ, blockQ]
      refine AW.ret ?_
      simp only [blockQ, thenQ, bR, Nat.reduceEqDiff, reduceIte, Int.reduceBNe, Int.reduceBEq]
      simp [askedOf, hm]
    · cases h
  simp only [typR, useR, okR, bR, Nat.reduceEqDiff, reduceIte, Int.reduceBNe, Int.reduceBEq]
  refine .done (hK _ ?_); clear hK K; simp only [thenQ, blockQ]
  refine AW.ite ?_
  simp only [condQ, bR, Nat.reduceEqDiff, reduceIte, Int.reduceBNe, Int.reduceBEq]
  refine ⟨fun h => ?_, fun h => ?_⟩
  · cases h
  refine AW.skip ?_; simp only [thenQ, blockQ, reduceIte, Nat.reduceEqDiff]
  refine AW.seq (AW.seq ?_)
  refine AW.reg cd92_3 fun K hK => ?_
  simp only [g92_3, bR, Nat.reduceEqDiff, reduceIte, Int.reduceBNe, Int.reduceBEq]
  refine .flat _ (F94' o 1 99) rfl ?_
  generalize ho : inR 1 99 o = bo
  cases bo
  · simp only [typR, useR, okR, bR, Nat.reduceEqDiff, reduceIte, Int.reduceBNe, Int.reduceBEq]
    refine .done (hK _ ?_); clear hK K; simp only [thenQ, blockQ]
    refine AW.ite ?_
    simp only [condQ, bR, Nat.reduceEqDiff, reduceIte, Int.reduceBNe, Int.reduceBEq]
    refine ⟨fun h => ?_, fun h => ?_⟩
    · refine AW.seq (AW.reg cd92_4 fun K hK => ?_)
      simp only [g92_4, bR, Nat.reduceEqDiff, reduceIte, Int.reduceBNe, Int.reduceBEq]
      refine .done (hK _ ?_); clear hK K; simp only [thenQ, blockQ]
      refine AW.ret ?_
      simp only [blockQ, thenQ, bR, Nat.reduceEqDiff, reduceIte, Int.reduceBNe, Int.reduceBEq]
      simp [askedOf, hm, ho]
    · cases h
  simp only [typR, useR, okR, bR, Nat.reduceEqDiff, reduceIte, Int.reduceBNe, Int.reduceBEq]
  refine .done (hK _ ?_); clear hK K; simp only [thenQ, blockQ]
  refine AW.ite ?_
  simp only [condQ, bR, Nat.reduceEqDiff, reduceIte, Int.reduceBNe, Int.reduceBEq]
  refine ⟨fun h => ?_, fun h => ?_⟩
  · cases h
  refine AW.skip ?_; simp only [thenQ, blockQ, reduceIte, Nat.reduceEqDiff]
  refine AW.seq (AW.reg cd92_5 fun K hK => ?_)
  simp only [g92_5, bR, Nat.reduceEqDiff, reduceIte, Int.reduceBNe, Int.reduceBEq]
  refine .done (hK _ ?_); clear hK K; simp only [thenQ, blockQ]
  refine AW.ret ?_
  simp only [blockQ, thenQ, bR, Nat.reduceEqDiff, reduceIte, Int.reduceBNe, Int.reduceBEq]
  simp [askedOf, hm, ho]

def ownersOf (m : Marks) (r : Arr 6 Int) : List Int × Int := if okM m then (if okReading r then (ownersIn m r m.given, 0) else ([], 12)) else ([], 13)

theorem nilInt : AV.slice 1 [] = enc ([] : List Int) := rfl

theorem F28 (m : Marks) (r : Arr 6 Int) : Ctr Try.prog 28 [enc m, enc r] (.tuple [enc (ownersOf m r).1, enc (ownersOf m r).2]) := by
  refine Ctr.mk' Try.func28 ca28 cc28 cr28 (Nat.le_of_ble_eq_true rfl) (fun hwf W0 D0 E1 => ?_)
  simp only [c28, r28, idx, Nat.zero_add, Nat.reduceAdd]
  refine AW.seq (AW.reg cd28_0 fun K hK => ?_)
  simp only [g28_0, bR, Nat.reduceEqDiff, reduceIte, Int.reduceBNe, Int.reduceBEq]
  refine .done (hK _ ?_); clear hK K; simp only [thenQ, blockQ]
  refine AW.seq (AW.seq ?_)
  refine AW.reg cd28_1 fun K hK => ?_
  simp only [g28_1, bR, Nat.reduceEqDiff, reduceIte, Int.reduceBNe, Int.reduceBEq]
  simp only [typR, useR, okR, e_fin, bR, Nat.reduceEqDiff, reduceIte, Int.reduceBNe, Int.reduceBEq]
  refine .flat _ (F48 m) rfl ?_
  generalize hm : okM m = bm
  cases bm
  · simp only [typR, useR, okR, bR, Nat.reduceEqDiff, reduceIte, Int.reduceBNe, Int.reduceBEq]
    refine .done (hK _ ?_); clear hK K; simp only [thenQ, blockQ]
    refine AW.ite ?_
    simp only [condQ, bR, Nat.reduceEqDiff, reduceIte, Int.reduceBNe, Int.reduceBEq]
    refine ⟨fun h => ?_, fun h => ?_⟩
    · refine AW.seq (AW.reg cd28_2 fun K hK => ?_)
      simp only [g28_2, bR, Nat.reduceEqDiff, reduceIte, Int.reduceBNe, Int.reduceBEq]
      refine .done (hK _ ?_); clear hK K; simp only [thenQ, blockQ]
      refine AW.ret ?_
      simp only [blockQ, thenQ, bR, Nat.reduceEqDiff, reduceIte, Int.reduceBNe, Int.reduceBEq]
      simp [ownersOf, hm, nilInt]
    · cases h
  simp only [typR, useR, okR, bR, Nat.reduceEqDiff, reduceIte, Int.reduceBNe, Int.reduceBEq]
  refine .done (hK _ ?_); clear hK K; simp only [thenQ, blockQ]
  refine AW.ite ?_
  simp only [condQ, bR, Nat.reduceEqDiff, reduceIte, Int.reduceBNe, Int.reduceBEq]
  refine ⟨fun h => ?_, fun h => ?_⟩
  · cases h
  refine AW.skip ?_; simp only [thenQ, blockQ, reduceIte, Nat.reduceEqDiff]
  refine AW.seq (AW.seq ?_)
  refine AW.reg cd28_3 fun K hK => ?_
  simp only [g28_3, bR, Nat.reduceEqDiff, reduceIte, Int.reduceBNe, Int.reduceBEq]
  simp only [typR, useR, okR, e_fin, bR, Nat.reduceEqDiff, reduceIte, Int.reduceBNe, Int.reduceBEq]
  refine .flat _ (F46' r) rfl ?_
  generalize hr : okReading r = br
  cases br
  · simp only [typR, useR, okR, bR, Nat.reduceEqDiff, reduceIte, Int.reduceBNe, Int.reduceBEq]
    refine .done (hK _ ?_); clear hK K; simp only [thenQ, blockQ]
    refine AW.ite ?_
    simp only [condQ, bR, Nat.reduceEqDiff, reduceIte, Int.reduceBNe, Int.reduceBEq]
    refine ⟨fun h => ?_, fun h => ?_⟩
    · refine AW.seq (AW.reg cd28_4 fun K hK => ?_)
      simp only [g28_4, bR, Nat.reduceEqDiff, reduceIte, Int.reduceBNe, Int.reduceBEq]
      refine .done (hK _ ?_); clear hK K; simp only [thenQ, blockQ]
      refine AW.ret ?_
      simp only [blockQ, thenQ, bR, Nat.reduceEqDiff, reduceIte, Int.reduceBNe, Int.reduceBEq]
      simp [ownersOf, hm, hr, nilInt]
    · cases h
  simp only [typR, useR, okR, bR, Nat.reduceEqDiff, reduceIte, Int.reduceBNe, Int.reduceBEq]
  refine .done (hK _ ?_); clear hK K; simp only [thenQ, blockQ]
  refine AW.ite ?_
  simp only [condQ, bR, Nat.reduceEqDiff, reduceIte, Int.reduceBNe, Int.reduceBEq]
  refine ⟨fun h => ?_, fun h => ?_⟩
  · cases h
  refine AW.skip ?_; simp only [thenQ, blockQ, reduceIte, Nat.reduceEqDiff]
  refine AW.seq (AW.reg cd28_5 fun K hK => ?_)
  simp only [g28_5, bR, Nat.reduceEqDiff, reduceIte, Int.reduceBNe, Int.reduceBEq]
  simp only [typR, useR, okR, e_fin, bR, Nat.reduceEqDiff, reduceIte, Int.reduceBNe, Int.reduceBEq]
  refine .lead _ (F84 m r (okM_book hm)) ?_
  simp only [typR, useR, okR, bR, Nat.reduceEqDiff, reduceIte, Int.reduceBNe, Int.reduceBEq]
  refine .done (hK _ ?_); clear hK K; simp only [thenQ, blockQ]
  refine AW.seq (AW.reg cd28_6 fun K hK => ?_)
  simp only [g28_6, bR, Nat.reduceEqDiff, reduceIte, Int.reduceBNe, Int.reduceBEq]
  refine .done (hK _ ?_); clear hK K; simp only [thenQ, blockQ]
  refine AW.ret ?_
  simp only [blockQ, thenQ, bR, Nat.reduceEqDiff, reduceIte, Int.reduceBNe, Int.reduceBEq]
  simp only [e_fin, bR, Nat.reduceEqDiff, reduceIte, Int.reduceBNe, Int.reduceBEq]
  simp [ownersOf, hm, hr]

def ownerOf (m : Marks) (r : Arr 6 Int) : Int × Int :=
  if (ownersOf m r).2 ≠ 0 then (0, (ownersOf m r).2) else match (ownersOf m r).1 with
    | [] => (0, 3)
    | [o] => (o, 0)
    | _ => (0, 17)

theorem F30 (m : Marks) (r : Arr 6 Int) : Ctr Try.prog 30 [enc m, enc r] (.tuple [enc (ownerOf m r).1, enc (ownerOf m r).2]) := by
  refine Ctr.mk' Try.func30 ca30 cc30 cr30 (Nat.le_of_ble_eq_true rfl) (fun hwf W0 D0 E1 => ?_)
  simp only [c30, r30, idx, Nat.zero_add, Nat.reduceAdd]
  refine AW.seq (AW.reg cd30_0 fun K hK => ?_)
  simp only [g30_0, bR, Nat.reduceEqDiff, reduceIte, Int.reduceBNe, Int.reduceBEq]
  refine .done (hK _ ?_); clear hK K; simp only [thenQ, blockQ]
  refine AW.seq (AW.reg cd30_1 fun K hK => ?_)
  simp only [g30_1, bR, Nat.reduceEqDiff, reduceIte, Int.reduceBNe, Int.reduceBEq]
  simp only [typR, useR, okR, e_fin, bR, Nat.reduceEqDiff, reduceIte, Int.reduceBNe, Int.reduceBEq]
  refine .lead _ (F28 m r) ?_
  generalize hp : ownersOf m r = p
  obtain ⟨l, e⟩ := p
  simp only [typR, useR, okR, e_fin, bR, Nat.reduceEqDiff, reduceIte, Int.reduceBNe, Int.reduceBEq]
  refine .done (hK _ ?_); clear hK K; simp only [thenQ, blockQ]
  refine AW.seq (AW.seq ?_)
  refine AW.reg cd30_2 fun K hK => ?_
  simp only [g30_2, bR, Nat.reduceEqDiff, reduceIte, Int.reduceBNe, Int.reduceBEq]
  refine .done (hK _ ?_); clear hK K; simp only [thenQ, blockQ]
  refine AW.ite ?_
  simp only [condQ, bR, Nat.reduceEqDiff, reduceIte, Int.reduceBNe, Int.reduceBEq]
  refine ⟨fun h => ?_, fun h => ?_⟩
  · refine AW.seq (AW.reg cd30_3 fun K hK => ?_)
    simp only [g30_3, bR, Nat.reduceEqDiff, reduceIte, Int.reduceBNe, Int.reduceBEq]
    refine .done (hK _ ?_); clear hK K; simp only [thenQ, blockQ]
    refine AW.ret ?_
    simp only [blockQ, thenQ, bR, Nat.reduceEqDiff, reduceIte, Int.reduceBNe, Int.reduceBEq]
    have he : e ≠ 0 := by simpa using h
    simp [ownerOf, hp, he]
  have he : e = 0 := by simpa using h
  subst he
  refine AW.skip ?_; simp only [thenQ, blockQ, reduceIte, Nat.reduceEqDiff]
  refine AW.seq (AW.seq ?_)
  refine AW.reg cd30_4 fun K hK => ?_
  simp only [g30_4, bR, Nat.reduceEqDiff, reduceIte, Int.reduceBNe, Int.reduceBEq]
  simp only [typR, useR, okR, e_fin, bR, Nat.reduceEqDiff, reduceIte, Int.reduceBNe, Int.reduceBEq]
  refine .done (hK _ ?_); clear hK K; simp only [thenQ, blockQ]
  refine AW.block ?_
  refine AW.seq (AW.reg cd30_5 fun K hK => ?_)
  simp only [g30_5, bR, Nat.reduceEqDiff, reduceIte, Int.reduceBNe, Int.reduceBEq]
  refine .done (hK _ ?_); clear hK K; simp only [thenQ, blockQ]
  refine AW.ite ?_
  simp only [condQ, bR, Nat.reduceEqDiff, reduceIte, Int.reduceBNe, Int.reduceBEq]
  refine ⟨fun h => ?_, fun h => ?_⟩
  · refine AW.seq (AW.reg cd30_6 fun K hK => ?_)
    simp only [g30_6, bR, Nat.reduceEqDiff, reduceIte, Int.reduceBNe, Int.reduceBEq]
    refine .done (hK _ ?_); clear hK K; simp only [thenQ, blockQ]
    refine AW.ret ?_
    simp only [blockQ, thenQ, bR, Nat.reduceEqDiff, reduceIte, Int.reduceBNe, Int.reduceBEq]
    have hl : l = [] := by simpa using h
    simp [ownerOf, hp, hl]
  have hl : l ≠ [] := by simpa using h
  refine AW.seq (AW.reg cd30_7 fun K hK => ?_)
  simp only [g30_7, bR, Nat.reduceEqDiff, reduceIte, Int.reduceBNe, Int.reduceBEq]
  refine .done (hK _ ?_); clear hK K; simp only [thenQ, blockQ]
  refine AW.ite ?_
  simp only [condQ, bR, Nat.reduceEqDiff, reduceIte, Int.reduceBNe, Int.reduceBEq]
  refine ⟨fun h => ?_, fun h => ?_⟩
  · have h1 : l.length = 1 := by simp at h; omega
    obtain ⟨o, rfl⟩ := List.length_eq_one_iff.1 h1
    refine AW.seq (AW.reg cd30_8 fun K hK => ?_)
    simp only [g30_8, bR, Nat.reduceEqDiff, reduceIte, Int.reduceBNe, Int.reduceBEq]
    simp only [typR, useR, okR, e_fin, isE_enc (k := 0) (l := [o]) 1 ⟨by omega, by simp⟩ rfl, bR, Nat.reduceEqDiff, reduceIte, Int.reduceBNe, Int.reduceBEq]
    refine .done (hK _ ?_); clear hK K; simp only [thenQ, blockQ]
    refine AW.ret ?_
    simp only [blockQ, thenQ, bR, Nat.reduceEqDiff, reduceIte, Int.reduceBNe, Int.reduceBEq]
    simp [ownerOf, hp]
  have h1 : l.length ≠ 1 := by simp at h; omega
  refine AW.skip ?_; simp only [thenQ, blockQ, reduceIte, Nat.reduceEqDiff]
  refine AW.seq (AW.reg cd30_9 fun K hK => ?_)
  simp only [g30_9, bR, Nat.reduceEqDiff, reduceIte, Int.reduceBNe, Int.reduceBEq]
  refine .done (hK _ ?_); clear hK K; simp only [thenQ, blockQ]
  refine AW.ret ?_
  simp only [blockQ, thenQ, bR, Nat.reduceEqDiff, reduceIte, Int.reduceBNe, Int.reduceBEq]
  match l, hl, h1 with
  | [], hl, _ => exact absurd rfl hl
  | [o], _, h1 => exact absurd rfl h1
  | a :: b :: r', _, _ => simp [ownerOf, hp]

end Go.Proofs.Ytkjkbpgdpnapfaa

/-
  FUNCTIONS OF THE REFERENCE BY CONTRACT: MarkOf, Cost, Distance.
-/
namespace Go.Proofs.Ytkjkbpgdpnapfaa
open Go Go.Abs
open Go.Abs.Enc (enc)

def zero6 : Arr 6 Int := ⟨List.replicate 6 0, rfl⟩
theorem e_zero6 : AV.agg [.int .i64 0, .int .i64 0, .int .i64 0, .int .i64 0, .int .i64 0, .int .i64 0] = enc zero6 := rfl

def markOf (m : Marks) (o : Int) : Arr 6 Int × Int :=
  if askedOf m o ≠ 0 then (zero6, askedOf m o) else if indexOf m.given o < 0 then (zero6, 3) else ((gv m (indexOf m.given o).toNat).mark, 0)

theorem indexOf_lt (l : List Given) (o : Int) (h : 0 ≤ indexOf l o) : (indexOf l o).toNat < l.length := by
  unfold indexOf at *
  split at h
  · rename_i i hi
    simp only [Int.toNat_natCast]
    exact (List.findIdx?_eq_some_iff_getElem.1 hi).1
  · omega

theorem F40 (m : Marks) (o : Int) : Ctr Try.prog 40 [enc m, enc o] (.tuple [enc (markOf m o).1, enc (markOf m o).2]) := by
  refine Ctr.mk' Try.func40 ca40 cc40 cr40 (Nat.le_of_ble_eq_true rfl) (fun hwf W0 D0 E1 => ?_)
  simp only [c40, r40, idx, Nat.zero_add, Nat.reduceAdd]
  refine AW.seq (AW.reg cd40_0 fun K hK => ?_)
  simp only [g40_0, bR, Nat.reduceEqDiff, reduceIte, Int.reduceBNe, Int.reduceBEq]
  refine .done (hK _ ?_); clear hK K; simp only [thenQ, blockQ]
  refine AW.seq (AW.reg cd40_1 fun K hK => ?_)
  simp only [g40_1, bR, Nat.reduceEqDiff, reduceIte, Int.reduceBNe, Int.reduceBEq]
  simp only [typR, useR, okR, e_fin, bR, Nat.reduceEqDiff, reduceIte, Int.reduceBNe, Int.reduceBEq]
  refine .flat _ (F92 m o) rfl ?_
  generalize ha : askedOf m o = a
  simp only [typR, useR, okR, bR, Nat.reduceEqDiff, reduceIte, Int.reduceBNe, Int.reduceBEq]
  refine .done (hK _ ?_); clear hK K; simp only [thenQ, blockQ]
  refine AW.seq (AW.seq ?_)
  refine AW.reg cd40_2 fun K hK => ?_
  simp only [g40_2, bR, Nat.reduceEqDiff, reduceIte, Int.reduceBNe, Int.reduceBEq]
  refine .done (hK _ ?_); clear hK K; simp only [thenQ, blockQ]
  refine AW.ite ?_
  simp only [condQ, bR, Nat.reduceEqDiff, reduceIte, Int.reduceBNe, Int.reduceBEq]
  refine ⟨fun h => ?_, fun h => ?_⟩
  · have h' : a ≠ 0 := by simpa using h
    refine AW.seq (AW.reg cd40_3 fun K hK => ?_)
    simp only [g40_3, bR, Nat.reduceEqDiff, reduceIte, Int.reduceBNe, Int.reduceBEq]
    simp only [setParts, List.map_nil, Option.map_some, bR, Nat.reduceEqDiff, reduceIte, Int.reduceBNe, Int.reduceBEq]
    simp only [e_zero6]
    rw [stR3_ok (e_isVal _) (by rw [e_okS]; rfl) rfl]
    simp only [bR, Nat.reduceEqDiff, reduceIte, Int.reduceBNe, Int.reduceBEq]
    refine .done (hK _ ?_); clear hK K; simp only [thenQ, blockQ]
    refine AW.ret ?_
    simp only [blockQ, thenQ, bR, Nat.reduceEqDiff, reduceIte, Int.reduceBNe, Int.reduceBEq]
    simp only [typR, e_fin, bR, Nat.reduceEqDiff, reduceIte, Int.reduceBNe, Int.reduceBEq]
    simp [markOf, ha, h']
  have h' : a = 0 := by simpa using h
  subst h'
  refine AW.skip ?_; simp only [thenQ, blockQ, reduceIte, Nat.reduceEqDiff]
  refine AW.seq (AW.reg cd40_4 fun K hK => ?_)
  simp only [g40_4, bR, Nat.reduceEqDiff, reduceIte, Int.reduceBNe, Int.reduceBEq]
  simp only [typR, useR, okR, e_fin, bR, Nat.reduceEqDiff, reduceIte, Int.reduceBNe, Int.reduceBEq]
  refine .flat _ (F80 m o) rfl ?_
  simp only [typR, useR, okR, bR, Nat.reduceEqDiff, reduceIte, Int.reduceBNe, Int.reduceBEq]
  refine .done (hK _ ?_); clear hK K; simp only [thenQ, blockQ]
  refine AW.seq (AW.seq ?_)
  refine AW.reg cd40_5 fun K hK => ?_
  simp only [g40_5, bR, Nat.reduceEqDiff, reduceIte, Int.reduceBNe, Int.reduceBEq]
  refine .done (hK _ ?_); clear hK K; simp only [thenQ, blockQ]
  refine AW.ite ?_
  simp only [condQ, bR, Nat.reduceEqDiff, reduceIte, Int.reduceBNe, Int.reduceBEq]
  refine ⟨fun h => ?_, fun h => ?_⟩
  · have h' : indexOf m.given o < 0 := by simpa using h
    refine AW.seq (AW.reg cd40_6 fun K hK => ?_)
    simp only [g40_6, bR, Nat.reduceEqDiff, reduceIte, Int.reduceBNe, Int.reduceBEq]
    simp only [setParts, List.map_nil, Option.map_some, bR, Nat.reduceEqDiff, reduceIte, Int.reduceBNe, Int.reduceBEq]
    simp only [e_zero6]
    rw [stR3_ok (e_isVal _) (by rw [e_okS]; rfl) rfl]
    simp only [bR, Nat.reduceEqDiff, reduceIte, Int.reduceBNe, Int.reduceBEq]
    refine .done (hK _ ?_); clear hK K; simp only [thenQ, blockQ]
    refine AW.ret ?_
    simp only [blockQ, thenQ, bR, Nat.reduceEqDiff, reduceIte, Int.reduceBNe, Int.reduceBEq]
    simp only [typR, e_fin, bR, Nat.reduceEqDiff, reduceIte, Int.reduceBNe, Int.reduceBEq]
    simp [markOf, ha, h']
  have h' : 0 ≤ indexOf m.given o := by simpa using h
  have hi := indexOf_lt m.given o h'
  have hi' : ((indexOf m.given o).toNat : Int) = indexOf m.given o := by omega
  refine AW.skip ?_; simp only [thenQ, blockQ, reduceIte, Nat.reduceEqDiff]
  refine AW.seq (AW.reg cd40_7 fun K hK => ?_)
  simp only [g40_7, bR, Nat.reduceEqDiff, reduceIte, Int.reduceBNe, Int.reduceBEq]
  rw [← hi']
  simp only [typR, useR, okR, isE_gv hi, e_fin, bR, Nat.reduceEqDiff, reduceIte, Int.reduceBNe, Int.reduceBEq]
  rw [stR3_ok (e_isVal _) (by rw [e_okS]; rfl) ((e_sh _).trans rfl)]
  simp only [bR, Nat.reduceEqDiff, reduceIte, Int.reduceBNe, Int.reduceBEq]
  refine .done (hK _ ?_); clear hK K; simp only [thenQ, blockQ]
  refine AW.ret ?_
  simp only [blockQ, thenQ, bR, Nat.reduceEqDiff, reduceIte, Int.reduceBNe, Int.reduceBEq]
  simp only [typR, e_fin, bR, Nat.reduceEqDiff, reduceIte, Int.reduceBNe, Int.reduceBEq]
  simp [markOf, ha, show ¬ indexOf m.given o < 0 by omega]

end Go.Proofs.Ytkjkbpgdpnapfaa

/-
  FUNCTIONS OF THE REFERENCE BY CONTRACT: Cost, Distance.
-/
namespace Go.Proofs.Ytkjkbpgdpnapfaa
open Go Go.Abs
open Go.Abs.Enc (enc)

def costR (w : Arr 5 Int) (a r : Arr 6 Int) : Int × Int := if okWear w then (if okMark a then (if okReading r then (costOf w a r, 0) else (0, 12)) else (0, 10)) else (0, 11)

theorem F49 (w : Arr 5 Int) (a r : Arr 6 Int) : Ctr Try.prog 49 [enc w, enc a, enc r] (.tuple [enc (costR w a r).1, enc (costR w a r).2]) := by
  refine Ctr.mk' Try.func49 ca49 cc49 cr49 (Nat.le_of_ble_eq_true rfl) (fun hwf W0 D0 E1 => ?_)
  simp only [c49, r49, idx, Nat.zero_add, Nat.reduceAdd]
  refine AW.seq (AW.reg cd49_0 fun K hK => ?_)
  simp only [g49_0, bR, Nat.reduceEqDiff, reduceIte, Int.reduceBNe, Int.reduceBEq]
  refine .done (hK _ ?_); clear hK K; simp only [thenQ, blockQ]
  refine AW.seq (AW.seq ?_)
  refine AW.reg cd49_1 fun K hK => ?_
  simp only [g49_1, bR, Nat.reduceEqDiff, reduceIte, Int.reduceBNe, Int.reduceBEq]
  simp only [typR, useR, okR, e_fin, bR, Nat.reduceEqDiff, reduceIte, Int.reduceBNe, Int.reduceBEq]
  refine .flat _ (F44' w) rfl ?_
  generalize hw : okWear w = bw
  cases bw
  · simp only [typR, useR, okR, bR, Nat.reduceEqDiff, reduceIte, Int.reduceBNe, Int.reduceBEq]
    refine .done (hK _ ?_); clear hK K; simp only [thenQ, blockQ]
    refine AW.ite ?_
    simp only [condQ, bR, Nat.reduceEqDiff, reduceIte, Int.reduceBNe, Int.reduceBEq]
    refine ⟨fun h => ?_, fun h => ?_⟩
    · refine AW.seq (AW.reg cd49_2 fun K hK => ?_)
      simp only [g49_2, bR, Nat.reduceEqDiff, reduceIte, Int.reduceBNe, Int.reduceBEq]
      refine .done (hK _ ?_); clear hK K; simp only [thenQ, blockQ]
      refine AW.ret ?_
      simp only [blockQ, thenQ, bR, Nat.reduceEqDiff, reduceIte, Int.reduceBNe, Int.reduceBEq]
      simp [costR, hw]
    · cases h
  simp only [typR, useR, okR, bR, Nat.reduceEqDiff, reduceIte, Int.reduceBNe, Int.reduceBEq]
  refine .done (hK _ ?_); clear hK K; simp only [thenQ, blockQ]
  refine AW.ite ?_
  simp only [condQ, bR, Nat.reduceEqDiff, reduceIte, Int.reduceBNe, Int.reduceBEq]
  refine ⟨fun h => ?_, fun h => ?_⟩
  · cases h
  refine AW.skip ?_; simp only [thenQ, blockQ, reduceIte, Nat.reduceEqDiff]
  refine AW.seq (AW.seq ?_)
  refine AW.reg cd49_3 fun K hK => ?_
  simp only [g49_3, bR, Nat.reduceEqDiff, reduceIte, Int.reduceBNe, Int.reduceBEq]
  simp only [typR, useR, okR, e_fin, bR, Nat.reduceEqDiff, reduceIte, Int.reduceBNe, Int.reduceBEq]
  refine .flat _ (F42' a) rfl ?_
  generalize ha : okMark a = ba
  cases ba
  · simp only [typR, useR, okR, bR, Nat.reduceEqDiff, reduceIte, Int.reduceBNe, Int.reduceBEq]
    refine .done (hK _ ?_); clear hK K; simp only [thenQ, blockQ]
    refine AW.ite ?_
    simp only [condQ, bR, Nat.reduceEqDiff, reduceIte, Int.reduceBNe, Int.reduceBEq]
    refine ⟨fun h => ?_, fun h => ?_⟩
    · refine AW.seq (AW.reg cd49_4 fun K hK => ?_)
      simp only [g49_4, bR, Nat.reduceEqDiff, reduceIte, Int.reduceBNe, Int.reduceBEq]
      refine .done (hK _ ?_); clear hK K; simp only [thenQ, blockQ]
      refine AW.ret ?_
      simp only [blockQ, thenQ, bR, Nat.reduceEqDiff, reduceIte, Int.reduceBNe, Int.reduceBEq]
      simp [costR, hw, ha]
    · cases h
  simp only [typR, useR, okR, bR, Nat.reduceEqDiff, reduceIte, Int.reduceBNe, Int.reduceBEq]
  refine .done (hK _ ?_); clear hK K; simp only [thenQ, blockQ]
  refine AW.ite ?_
  simp only [condQ, bR, Nat.reduceEqDiff, reduceIte, Int.reduceBNe, Int.reduceBEq]
  refine ⟨fun h => ?_, fun h => ?_⟩
  · cases h
  refine AW.skip ?_; simp only [thenQ, blockQ, reduceIte, Nat.reduceEqDiff]
  refine AW.seq (AW.seq ?_)
  refine AW.reg cd49_5 fun K hK => ?_
  simp only [g49_5, bR, Nat.reduceEqDiff, reduceIte, Int.reduceBNe, Int.reduceBEq]
  simp only [typR, useR, okR, e_fin, bR, Nat.reduceEqDiff, reduceIte, Int.reduceBNe, Int.reduceBEq]
  refine .flat _ (F46' r) rfl ?_
  generalize hr : okReading r = br
  cases br
  · simp only [typR, useR, okR, bR, Nat.reduceEqDiff, reduceIte, Int.reduceBNe, Int.reduceBEq]
    refine .done (hK _ ?_); clear hK K; simp only [thenQ, blockQ]
    refine AW.ite ?_
    simp only [condQ, bR, Nat.reduceEqDiff, reduceIte, Int.reduceBNe, Int.reduceBEq]
    refine ⟨fun h => ?_, fun h => ?_⟩
    · refine AW.seq (AW.reg cd49_6 fun K hK => ?_)
      simp only [g49_6, bR, Nat.reduceEqDiff, reduceIte, Int.reduceBNe, Int.reduceBEq]
      refine .done (hK _ ?_); clear hK K; simp only [thenQ, blockQ]
      refine AW.ret ?_
      simp only [blockQ, thenQ, bR, Nat.reduceEqDiff, reduceIte, Int.reduceBNe, Int.reduceBEq]
      simp [costR, hw, ha, hr]
    · cases h
  simp only [typR, useR, okR, bR, Nat.reduceEqDiff, reduceIte, Int.reduceBNe, Int.reduceBEq]
  refine .done (hK _ ?_); clear hK K; simp only [thenQ, blockQ]
  refine AW.ite ?_
  simp only [condQ, bR, Nat.reduceEqDiff, reduceIte, Int.reduceBNe, Int.reduceBEq]
  refine ⟨fun h => ?_, fun h => ?_⟩
  · cases h
  refine AW.skip ?_; simp only [thenQ, blockQ, reduceIte, Nat.reduceEqDiff]
  refine AW.seq (AW.reg cd49_7 fun K hK => ?_)
  simp only [g49_7, bR, Nat.reduceEqDiff, reduceIte, Int.reduceBNe, Int.reduceBEq]
  simp only [typR, useR, okR, e_fin, bR, Nat.reduceEqDiff, reduceIte, Int.reduceBNe, Int.reduceBEq]
  refine .flat _ (F86 w a r ha) rfl ?_
  simp only [typR, useR, okR, bR, Nat.reduceEqDiff, reduceIte, Int.reduceBNe, Int.reduceBEq]
  refine .done (hK _ ?_); clear hK K; simp only [thenQ, blockQ]
  refine AW.seq (AW.reg cd49_8 fun K hK => ?_)
  simp only [g49_8, bR, Nat.reduceEqDiff, reduceIte, Int.reduceBNe, Int.reduceBEq]
  refine .done (hK _ ?_); clear hK K; simp only [thenQ, blockQ]
  refine AW.ret ?_
  simp only [blockQ, thenQ, bR, Nat.reduceEqDiff, reduceIte, Int.reduceBNe, Int.reduceBEq]
  simp [costR, hw, ha, hr]

def distR (w : Arr 5 Int) (a b : Arr 6 Int) : Int × Int := if okWear w then (if okMark a then (if okMark b then ((cnt (apartAt w a b) 6 : Int), 0) else (0, 10)) else (0, 10)) else (0, 11)

theorem F50 (w : Arr 5 Int) (a b : Arr 6 Int) : Ctr Try.prog 50 [enc w, enc a, enc b] (.tuple [enc (distR w a b).1, enc (distR w a b).2]) := by
  refine Ctr.mk' Try.func50 ca50 cc50 cr50 (Nat.le_of_ble_eq_true rfl) (fun hwf W0 D0 E1 => ?_)
  simp only [c50, r50, idx, Nat.zero_add, Nat.reduceAdd]
  refine AW.seq (AW.reg cd50_0 fun K hK => ?_)
  simp only [g50_0, bR, Nat.reduceEqDiff, reduceIte, Int.reduceBNe, Int.reduceBEq]
  refine .done (hK _ ?_); clear hK K; simp only [thenQ, blockQ]
  refine AW.seq (AW.seq ?_)
  refine AW.reg cd50_1 fun K hK => ?_
  simp only [g50_1, bR, Nat.reduceEqDiff, reduceIte, Int.reduceBNe, Int.reduceBEq]
  simp only [typR, useR, okR, e_fin, bR, Nat.reduceEqDiff, reduceIte, Int.reduceBNe, Int.reduceBEq]
  refine .flat _ (F44' w) rfl ?_
  generalize hw : okWear w = bw
  cases bw
  · simp only [typR, useR, okR, bR, Nat.reduceEqDiff, reduceIte, Int.reduceBNe, Int.reduceBEq]
    refine .done (hK _ ?_); clear hK K; simp only [thenQ, blockQ]
    refine AW.ite ?_
    simp only [condQ, bR, Nat.reduceEqDiff, reduceIte, Int.reduceBNe, Int.reduceBEq]
    refine ⟨fun h => ?_, fun h => ?_⟩
    · refine AW.seq (AW.reg cd50_2 fun K hK => ?_)
      simp only [g50_2, bR, Nat.reduceEqDiff, reduceIte, Int.reduceBNe, Int.reduceBEq]
      refine .done (hK _ ?_); clear hK K; simp only [thenQ, blockQ]
      refine AW.ret ?_
      simp only [blockQ, thenQ, bR, Nat.reduceEqDiff, reduceIte, Int.reduceBNe, Int.reduceBEq]
      simp [distR, hw]
    · cases h
  simp only [typR, useR, okR, bR, Nat.reduceEqDiff, reduceIte, Int.reduceBNe, Int.reduceBEq]
  refine .done (hK _ ?_); clear hK K; simp only [thenQ, blockQ]
  refine AW.ite ?_
  simp only [condQ, bR, Nat.reduceEqDiff, reduceIte, Int.reduceBNe, Int.reduceBEq]
  refine ⟨fun h => ?_, fun h => ?_⟩
  · cases h
  refine AW.skip ?_; simp only [thenQ, blockQ, reduceIte, Nat.reduceEqDiff]
  refine AW.seq (AW.seq ?_)
  refine AW.reg cd50_3 fun K hK => ?_
  simp only [g50_3, bR, Nat.reduceEqDiff, reduceIte, Int.reduceBNe, Int.reduceBEq]
  simp only [typR, useR, okR, e_fin, bR, Nat.reduceEqDiff, reduceIte, Int.reduceBNe, Int.reduceBEq]
  refine .flat _ (F42' a) rfl ?_
  generalize ha : okMark a = ba
  cases ba
  · simp only [typR, useR, okR, bR, Nat.reduceEqDiff, reduceIte, Int.reduceBNe, Int.reduceBEq]
    refine .done (hK _ ?_); clear hK K; simp only [thenQ, blockQ]
    refine AW.ite ?_
    simp only [condQ, bR, Nat.reduceEqDiff, reduceIte, Int.reduceBNe, Int.reduceBEq]
    refine ⟨fun h => ?_, fun h => ?_⟩
    · refine AW.seq (AW.reg cd50_4 fun K hK => ?_)
      simp only [g50_4, bR, Nat.reduceEqDiff, reduceIte, Int.reduceBNe, Int.reduceBEq]
      refine .done (hK _ ?_); clear hK K; simp only [thenQ, blockQ]
      refine AW.ret ?_
      simp only [blockQ, thenQ, bR, Nat.reduceEqDiff, reduceIte, Int.reduceBNe, Int.reduceBEq]
      simp [distR, hw, ha]
    · cases h
  simp only [typR, useR, okR, e_fin, bR, Nat.reduceEqDiff, reduceIte, Int.reduceBNe, Int.reduceBEq]
  refine .flat _ (F42' b) rfl ?_
  generalize hb : okMark b = bb
  cases bb
  · simp only [typR, useR, okR, bR, Nat.reduceEqDiff, reduceIte, Int.reduceBNe, Int.reduceBEq]
    refine .done (hK _ ?_); clear hK K; simp only [thenQ, blockQ]
    refine AW.ite ?_
    simp only [condQ, bR, Nat.reduceEqDiff, reduceIte, Int.reduceBNe, Int.reduceBEq]
    refine ⟨fun h => ?_, fun h => ?_⟩
    · refine AW.seq (AW.reg cd50_4 fun K hK => ?_)
      simp only [g50_4, bR, Nat.reduceEqDiff, reduceIte, Int.reduceBNe, Int.reduceBEq]
      refine .done (hK _ ?_); clear hK K; simp only [thenQ, blockQ]
      refine AW.ret ?_
      simp only [blockQ, thenQ, bR, Nat.reduceEqDiff, reduceIte, Int.reduceBNe, Int.reduceBEq]
      simp [distR, hw, ha, hb]
    · cases h
  simp only [typR, useR, okR, bR, Nat.reduceEqDiff, reduceIte, Int.reduceBNe, Int.reduceBEq]
  refine .done (hK _ ?_); clear hK K; simp only [thenQ, blockQ]
  refine AW.ite ?_
  simp only [condQ, bR, Nat.reduceEqDiff, reduceIte, Int.reduceBNe, Int.reduceBEq]
  refine ⟨fun h => ?_, fun h => ?_⟩
  · cases h
  refine AW.skip ?_; simp only [thenQ, blockQ, reduceIte, Nat.reduceEqDiff]
  refine AW.seq (AW.reg cd50_5 fun K hK => ?_)
  simp only [g50_5, bR, Nat.reduceEqDiff, reduceIte, Int.reduceBNe, Int.reduceBEq]
  simp only [typR, useR, okR, e_fin, bR, Nat.reduceEqDiff, reduceIte, Int.reduceBNe, Int.reduceBEq]
  refine .flat _ (F99 w a b ha hb) rfl ?_
  simp only [typR, useR, okR, bR, Nat.reduceEqDiff, reduceIte, Int.reduceBNe, Int.reduceBEq]
  refine .done (hK _ ?_); clear hK K; simp only [thenQ, blockQ]
  refine AW.seq (AW.reg cd50_6 fun K hK => ?_)
  simp only [g50_6, bR, Nat.reduceEqDiff, reduceIte, Int.reduceBNe, Int.reduceBEq]
  refine .done (hK _ ?_); clear hK K; simp only [thenQ, blockQ]
  refine AW.ret ?_
  simp only [blockQ, thenQ, bR, Nat.reduceEqDiff, reduceIte, Int.reduceBNe, Int.reduceBEq]
  simp [distR, hw, ha, hb]

end Go.Proofs.Ytkjkbpgdpnapfaa

/-
  ARRAYS WRITTEN PLACE BY PLACE; by contract: Numbered.
-/
namespace Go.Proofs.Ytkjkbpgdpnapfaa
open Go Go.Abs
open Go.Abs.Enc (enc)

def upd {n : Nat} (x : Arr n Int) (k : Nat) (v : Int) : Arr n Int := ⟨x.l.set k v, by simp [x.h]⟩
theorem g_upd {n : Nat} (x : Arr n Int) (k j : Nat) (v : Int) (h : k < n) : (upd x k v).g j = if k = j then v else x.g j := by
  simp only [Arr.g, upd, List.getD_eq_getElem?_getD, List.getElem?_set]
  by_cases hkj : k = j
  · subst hkj; simp [x.lt h]
  · simp [hkj]
theorem setAt_g {n k : Nat} (x : Arr n Int) (h : k < n) (v : Int) : (enc x : AV).setAt [k] (.int .i64 v) = enc (upd x k v) := by
  have h1 : (enc x : AV).flds = some (x.l.map enc) := rfl
  rw [setAt_cons, h1]
  simp only [setL, get_g x h, setO2, setAt_nil]
  change AV.agg _ = AV.agg ((x.l.set k v).map enc)
  rw [List.map_set]; rfl
theorem stR3_g {A : AState} {n m k : Nat} (x : Arr m Int) (h : k < m) {v u : Int} {rest : List G} : stR3 A none n [k] (enc x) (.int .i64 v) rest (some (.int .i64 u)) = aops rest (A.setO n (.box (enc (upd x k v)))) := by
  rw [stR3_ok (s := none) (v := .int .i64 v) (old := .int .i64 u) rfl rfl rfl, setAt_g x h]

def nd (n : Int) : Nat → Int
  | 0 => n
  | k + 1 => (nd n k).tdiv 5
def digits (n : Int) : Nat → Arr 6 Int
  | 0 => zero6
  | k + 1 => upd (digits n k) (5 - k) ((nd n k).tmod 5)

theorem nd_in (n : Int) (h : -9223372036854775808 ≤ n ∧ n ≤ 9223372036854775807) : ∀ k, -9223372036854775808 ≤ nd n k ∧ nd n k ≤ 9223372036854775807
  | 0 => h
  | k + 1 => by
    have := nd_in n h k
    simp only [nd]
    rcases Int.le_total 0 (nd n k) with h0 | h0
    · rw [Int.tdiv_eq_ediv_of_nonneg h0]; omega
    · have : (nd n k).tdiv 5 = -((-(nd n k)) / 5) := by
        rw [← Int.tdiv_eq_ediv_of_nonneg (by omega), Int.neg_tdiv, Int.neg_neg]
      omega

theorem F35 (n : Int) : Ctr Try.prog 35 [enc n] (enc (digits n 6)) := by
  refine Ctr.mk' Try.func35 ca35 cc35 cr35 (Nat.le_of_ble_eq_true rfl) (fun hwf W0 D0 E1 => ?_)
  simp only [c35, r35, idx, Nat.zero_add, Nat.reduceAdd]
  have hin := nd_in n ((wf_int n).1 hwf.1)
  have h5 : ¬ (5 : Int) = 0 := by decide
  refine AW.seq (AW.reg cd35_0 fun K hK => ?_)
  simp only [g35_0, bR, Nat.reduceEqDiff, reduceIte, Int.reduceBNe, Int.reduceBEq]
  refine .done (hK _ ?_); clear hK K; simp only [thenQ, blockQ]
  refine AW.seq (AW.reg cd35_1 fun K hK => ?_)
  simp only [g35_1, bR, Nat.reduceEqDiff, reduceIte, Int.reduceBNe, Int.reduceBEq]
  simp only [e_zero6]
  refine .done (hK _ ?_); clear hK K; simp only [thenQ, blockQ]
  refine AW.seq (AW.seq ?_)
  refine AW.reg cd35_2 fun K hK => ?_
  simp only [g35_2, bR, Nat.reduceEqDiff, reduceIte, Int.reduceBNe, Int.reduceBEq]
  refine .done (hK _ ?_); clear hK K; simp only [thenQ, blockQ]
  refine AW.block (AW.loop (fun k : Nat => mkA [(0, .int .i64 (nd n k)), (2, .ptr 2 []), (3, .ptr 3 []), (4, .int .i64 (5 - k))] [(2, .box (enc zero6)), (3, .box (enc (digits n k)))]) (fun k => k ≤ 6) (fun k => 6 - k) 0 (by omega) ?_ (fun k hk => ?_))
  · refine Sub.of_lists ?_ ?_ ?_ ?_ <;> simp [subT, subO, onlyT, onlyO, isIn, look_cons, lookO_cons, lookO_nil, AV.only, AV.onlys, AO.only, onlys_map, onlys_append, e_only, e_int, e_bool]
    all_goals rfl
  refine AW.seq (AW.seq ?_)
  refine AW.reg cd35_3 fun K hK => ?_
  simp only [g35_3, bR, Nat.reduceEqDiff, reduceIte, Int.reduceBNe, Int.reduceBEq]
  refine .done (hK _ ?_); clear hK K; simp only [thenQ, blockQ]
  refine AW.ite ?_
  simp only [condQ, bR, Nat.reduceEqDiff, reduceIte, Int.reduceBNe, Int.reduceBEq]
  refine ⟨fun h => ?_, fun h => ?_⟩
  · have hlt : k < 6 := by simp at h; omega
    have hd := hin k
    have e1 : ((5 : Int) - k).toNat = 5 - k := by omega
    have hlt' : 5 - k < 6 := by omega
    refine AW.skip ?_; simp only [thenQ, blockQ, reduceIte, Nat.reduceEqDiff]
    refine AW.seq (AW.block ?_)
    refine AW.seq (AW.reg cd35_4 fun K hK => ?_)
    simp only [g35_4, bR, Nat.reduceEqDiff, reduceIte, Int.reduceBNe, Int.reduceBEq]
    simp only [h5, useR, inB_int 1 (digits n k) (show (0 : Int) ≤ 5 - k ∧ (5 : Int) - k < (6 : Nat) by omega) rfl, e1, atL_g (digits n k) hlt', stR3_g (digits n k) hlt', bR, Nat.reduceEqDiff, reduceIte, Int.reduceBNe, Int.reduceBEq]
    refine .done (hK _ ?_); clear hK K; simp only [thenQ, blockQ]
    refine AW.reg cd35_5 fun K hK => ?_
    simp only [g35_5, bR, Nat.reduceEqDiff, reduceIte, Int.reduceBNe, Int.reduceBEq]
    simp only [h5, bR, Nat.reduceEqDiff, reduceIte, Int.reduceBNe, Int.reduceBEq]
    refine .done (hK _ ?_); clear hK K; simp only [thenQ, blockQ]
    refine AW.reg cd35_6 fun K hK => ?_
    simp only [g35_6, bR, Nat.reduceEqDiff, reduceIte, Int.reduceBNe, Int.reduceBEq]
    refine .done (hK _ ?_); clear hK K; simp only [thenQ, blockQ]
    refine ⟨k + 1, by omega, by omega, ?_⟩
    have hq := hin (k + 1)
    simp only [nd] at hq
    rw [wrap_id _ (by omega) (by omega), wrap_id _ hq.1 hq.2]
    have e2 : (5 : Int) - k - 1 = 5 - ((k + 1 : Nat) : Int) := by omega
    rw [e2]
    simp only [nd, digits]
    refine Sub.of_lists ?_ ?_ ?_ ?_ <;> simp [subT, subO, onlyT, onlyO, isIn, look_cons, lookO_cons, lookO_nil, AV.only, AV.onlys, AO.only, onlys_map, onlys_append, e_only, e_int, e_bool]
  · have hge : k = 6 := by simp at h; omega
    subst hge
    refine AW.exit ?_; simp only [thenQ, blockQ, reduceIte, Nat.reduceEqDiff]
    refine AW.seq (AW.reg cd35_7 fun K hK => ?_)
    simp only [g35_7, bR, Nat.reduceEqDiff, reduceIte, Int.reduceBNe, Int.reduceBEq]
    simp only [typR, useR, bR, Nat.reduceEqDiff, reduceIte, Int.reduceBNe, Int.reduceBEq]
    rw [stR3_ok (e_isVal _) (by rw [e_okS]; rfl) ((e_sh _).trans (e_sh _).symm)]
    simp only [bR, Nat.reduceEqDiff, reduceIte, Int.reduceBNe, Int.reduceBEq]
    refine .done (hK _ ?_); clear hK K; simp only [thenQ, blockQ]
    refine AW.ret ?_
    simp only [blockQ, thenQ, bR, Nat.reduceEqDiff, reduceIte, Int.reduceBNe, Int.reduceBEq]
    simp only [typR, e_fin, bR, Nat.reduceEqDiff, reduceIte, Int.reduceBNe, Int.reduceBEq]

end Go.Proofs.Ytkjkbpgdpnapfaa

/-
  FUNCTIONS OF THE REFERENCE BY CONTRACT: arePlaces.
-/
namespace Go.Proofs.Ytkjkbpgdpnapfaa
open Go Go.Abs
open Go.Abs.Enc (enc)

def placeAt (l : List Int) (i : Nat) : Bool := inR 0 5 (l.getD i 0) && (i == 0 || decide (l.getD (i - 1) 0 < l.getD i 0))
/-- Places, in their order, none twice. -/
def okPlaces (l : List Int) : Bool := (List.range l.length).all (placeAt l)

theorem isE_getD {A : AState} {l : List Int} {i : Nat} (h : i < l.length) : isE A 1 (i : Int) (enc l) = some (.ref (.int .i64 (l.getD i 0))) := by
  rw [isE_nat 1 h rfl]
  simp [List.getD_eq_getElem?_getD, h, e_int]

theorem F79 (l : List Int) : Ctr Try.prog 79 [enc l] (enc (okPlaces l)) := by
  refine Ctr.mk' Try.func79 ca79 cc79 cr79 (Nat.le_of_ble_eq_true rfl) (fun hwf W0 D0 E1 => ?_)
  simp only [c79, r79, idx, Nat.zero_add, Nat.reduceAdd]
  have hlen : l.length ≤ maxLen := ((wf_list l).1 hwf.1).1
  simp only [maxLen] at hlen
  refine AW.seq (AW.reg cd79_0 fun K hK => ?_)
  simp only [g79_0, bR, Nat.reduceEqDiff, reduceIte, Int.reduceBNe, Int.reduceBEq]
  refine .done (hK _ ?_); clear hK K; simp only [thenQ, blockQ]
  refine AW.seq ?_
  refine AW.seq (AW.reg cd79_1 fun K hK => ?_)
  simp only [g79_1, bR, Nat.reduceEqDiff, reduceIte, Int.reduceBNe, Int.reduceBEq]
  refine .done (hK _ ?_); clear hK K; simp only [thenQ, blockQ]
  refine AW.block (AW.loop (fun i : Nat => mkA [(0, enc l), (3, .int .i64 i)] []) (fun i => i ≤ l.length ∧ ∀ j, j < i → placeAt l j = true) (fun i => l.length - i) 0 ⟨by omega, fun k h => by omega⟩ ?_ (fun i hi => ?_))
  · refine Sub.of_lists ?_ ?_ ?_ ?_ <;> simp [subT, subO, onlyT, onlyO, isIn, look_cons, lookO_cons, lookO_nil, AV.only, AV.onlys, AO.only, onlys_map, onlys_append, e_only, e_int, e_bool]
  refine AW.seq (AW.seq ?_)
  refine AW.reg cd79_2 fun K hK => ?_
  simp only [g79_2, bR, Nat.reduceEqDiff, reduceIte, Int.reduceBNe, Int.reduceBEq]
  simp only [typR, useR, okR, bR, Nat.reduceEqDiff, reduceIte, Int.reduceBNe, Int.reduceBEq]
  refine .done (hK _ ?_); clear hK K; simp only [thenQ, blockQ]
  refine AW.ite ?_
  simp only [condQ, bR, Nat.reduceEqDiff, reduceIte, Int.reduceBNe, Int.reduceBEq]
  refine ⟨fun h => ?_, fun h => ?_⟩
  case refine_2.refine_2 =>
    have hge : i = l.length := by simp at h; omega
    subst hge
    refine AW.exit ?_; simp only [thenQ, blockQ, reduceIte, Nat.reduceEqDiff]
    refine AW.seq (AW.reg cd79_6 fun K hK => ?_)
    simp only [g79_6, bR, Nat.reduceEqDiff, reduceIte, Int.reduceBNe, Int.reduceBEq]
    refine .done (hK _ ?_); clear hK K; simp only [thenQ, blockQ]
    refine AW.ret ?_
    simp only [blockQ, thenQ, bR, Nat.reduceEqDiff, reduceIte, Int.reduceBNe, Int.reduceBEq]
    rw [okPlaces, all_true hi.2]
  have hlt : i < l.length := by simpa using h
  have bad : placeAt l i = false → okPlaces l = false := fun h => all_false i hlt h
  refine AW.skip ?_; simp only [thenQ, blockQ, reduceIte, Nat.reduceEqDiff]
  refine AW.seq (AW.block ?_)
  refine AW.seq (AW.reg cd79_3 fun K hK => ?_)
  simp only [g79_3, bR, Nat.reduceEqDiff, reduceIte, Int.reduceBNe, Int.reduceBEq]
  simp only [typR, useR, okR, isE_getD hlt, bR, Nat.reduceEqDiff, reduceIte, Int.reduceBNe, Int.reduceBEq]
  refine .flat _ (F94' (l.getD i 0) 0 5) rfl ?_
  generalize hr : inR 0 5 (l.getD i 0) = br
  cases br
  · simp only [typR, useR, okR, bR, Nat.reduceEqDiff, reduceIte, Int.reduceBNe, Int.reduceBEq]
    refine .done (hK _ ?_); clear hK K; simp only [thenQ, blockQ]
    refine AW.ite ?_
    simp only [condQ, bR, Nat.reduceEqDiff, reduceIte, Int.reduceBNe, Int.reduceBEq]
    refine ⟨fun h => ?_, fun h => ?_⟩
    · refine AW.seq (AW.reg cd79_4 fun K hK => ?_)
      simp only [g79_4, bR, Nat.reduceEqDiff, reduceIte, Int.reduceBNe, Int.reduceBEq]
      refine .done (hK _ ?_); clear hK K; simp only [thenQ, blockQ]
      refine AW.ret ?_
      simp only [blockQ, thenQ, bR, Nat.reduceEqDiff, reduceIte, Int.reduceBNe, Int.reduceBEq]
      rw [bad (by simp only [placeAt, hr, Bool.false_and])]
    · cases h
  simp only [typR, useR, okR, bR, Nat.reduceEqDiff, reduceIte, Int.reduceBNe, Int.reduceBEq]
  generalize hz : decide (0 < (i : Int)) = bz
  cases bz
  · have hz' : i = 0 := by simp at hz; omega
    simp only [typR, useR, okR, bR, Nat.reduceEqDiff, reduceIte, Int.reduceBNe, Int.reduceBEq]
    refine .done (hK _ ?_); clear hK K; simp only [thenQ, blockQ]
    refine AW.ite ?_
    simp only [condQ, bR, Nat.reduceEqDiff, reduceIte, Int.reduceBNe, Int.reduceBEq]
    refine ⟨fun h => ?_, fun h => ?_⟩
    · cases h
    refine AW.skip ?_; simp only [thenQ, blockQ, reduceIte, Nat.reduceEqDiff]
    refine AW.reg cd79_5 fun K hK => ?_
    simp only [g79_5, bR, Nat.reduceEqDiff, reduceIte, Int.reduceBNe, Int.reduceBEq]
    refine .done (hK _ ?_); clear hK K; simp only [thenQ, blockQ]
    refine ⟨i + 1, ⟨by omega, fun k hk' => ?_⟩, by omega, ?_⟩
    · by_cases hki : k = i
      · rw [hki, placeAt, hr]; simp [hz']
      · exact hi.2 k (by omega)
    · rw [wrap_id _ (by omega) (by omega)]
      refine Sub.of_lists ?_ ?_ ?_ ?_ <;> simp [subT, subO, onlyT, onlyO, isIn, look_cons, lookO_cons, lookO_nil, AV.only, AV.onlys, AO.only, onlys_map, onlys_append, e_only, e_int, e_bool]
  · have hpos : 0 < i := by simpa using hz
    have hpl : i - 1 < l.length := by omega
    have hpred : IntKind.i64.wrap ((i : Int) - 1) = ((i - 1 : Nat) : Int) := by rw [wrap_id _ (by omega) (by omega)]; omega
    simp only [typR, useR, okR, hpred, isE_getD hpl, isE_getD hlt, bR, Nat.reduceEqDiff, reduceIte, Int.reduceBNe, Int.reduceBEq]
    refine .done (hK _ ?_); clear hK K; simp only [thenQ, blockQ]
    refine AW.ite ?_
    simp only [condQ, bR, Nat.reduceEqDiff, reduceIte, Int.reduceBNe, Int.reduceBEq]
    refine ⟨fun h => ?_, fun h => ?_⟩
    · refine AW.seq (AW.reg cd79_4 fun K hK => ?_)
      simp only [g79_4, bR, Nat.reduceEqDiff, reduceIte, Int.reduceBNe, Int.reduceBEq]
      refine .done (hK _ ?_); clear hK K; simp only [thenQ, blockQ]
      refine AW.ret ?_
      simp only [blockQ, thenQ, bR, Nat.reduceEqDiff, reduceIte, Int.reduceBNe, Int.reduceBEq]
      have : (i == 0 || decide (l.getD (i - 1) 0 < l.getD i 0)) = false := by
        have h1 : l.getD i 0 ≤ l.getD (i - 1) 0 := of_decide_eq_true h
        have h2 : ¬ (l.getD (i - 1) 0 < l.getD i 0) := by omega
        have h3 : ¬ i = 0 := by omega
        simp only [decide_eq_false h2, Bool.or_false, beq_eq_false_iff_ne, ne_eq, h3, not_false_eq_true]
      rw [bad (by simp only [placeAt, this, Bool.and_false])]
    have hprev : (i == 0 || decide (l.getD (i - 1) 0 < l.getD i 0)) = true := by
      have h1 : ¬ (l.getD i 0 ≤ l.getD (i - 1) 0) := of_decide_eq_false h
      have h2 : l.getD (i - 1) 0 < l.getD i 0 := by omega
      simp only [decide_eq_true h2, Bool.or_true]
    refine AW.skip ?_; simp only [thenQ, blockQ, reduceIte, Nat.reduceEqDiff]
    refine AW.reg cd79_5 fun K hK => ?_
    simp only [g79_5, bR, Nat.reduceEqDiff, reduceIte, Int.reduceBNe, Int.reduceBEq]
    refine .done (hK _ ?_); clear hK K; simp only [thenQ, blockQ]
    refine ⟨i + 1, ⟨by omega, fun k hk' => ?_⟩, by omega, ?_⟩
    · by_cases hki : k = i
      · rw [hki, placeAt, hr, hprev]; rfl
      · exact hi.2 k (by omega)
    · rw [wrap_id _ (by omega) (by omega)]
      refine Sub.of_lists ?_ ?_ ?_ ?_ <;> simp [subT, subO, onlyT, onlyO, isIn, look_cons, lookO_cons, lookO_nil, AV.only, AV.onlys, AO.only, onlys_map, onlys_append, e_only, e_int, e_bool]

end Go.Proofs.Ytkjkbpgdpnapfaa

/-
  FUNCTIONS OF THE REFERENCE BY CONTRACT: chosen, Ahead.
-/
namespace Go.Proofs.Ytkjkbpgdpnapfaa
open Go Go.Abs
open Go.Abs.Enc (enc)

theorem F68 (w : Int) : Ctr Try.prog 68 [enc w] (enc (members w 6)) := by
  refine Ctr.mk' Try.func68 ca68 cc68 cr68 (Nat.le_of_ble_eq_true rfl) (fun hwf W0 D0 E1 => ?_)
  simp only [c68, r68, idx, Nat.zero_add, Nat.reduceAdd]
  refine AW.seq (AW.reg cd68_0 fun K hK => ?_)
  simp only [g68_0, bR, Nat.reduceEqDiff, reduceIte, Int.reduceBNe, Int.reduceBEq]
  refine .done (hK _ ?_); clear hK K; simp only [thenQ, blockQ]
  refine AW.seq (AW.reg cd68_1 fun K hK => ?_)
  simp only [g68_1, bR, Nat.reduceEqDiff, reduceIte, Int.reduceBNe, Int.reduceBEq]
  refine .done (hK _ ?_); clear hK K; simp only [thenQ, blockQ]
  refine AW.seq (AW.seq ?_)
  refine AW.reg cd68_2 fun K hK => ?_
  simp only [g68_2, bR, Nat.reduceEqDiff, reduceIte, Int.reduceBNe, Int.reduceBEq]
  refine .done (hK _ ?_); clear hK K; simp only [thenQ, blockQ]
  refine AW.block (AW.loop (fun i : Nat => mkA [(0, .int .i64 w), (2, .nils 1), (3, .own 3 (members w i).length), (4, .int .i64 i)] [(3, .row 3 1 ((members w i).map enc))]) (fun i => i ≤ 6) (fun i => 6 - i) 0 (by omega) ?_ (fun i hi => ?_))
  · refine Sub.adoptL 3 3 3 1 1 ?_ ?_ ?_
    · simp only [absR, Nat.reduceEqDiff, reduceIte]
    · simp only [absR]
    · simp only [members, List.map_nil, List.length_nil]
      refine Sub.of_lists ?_ ?_ ?_ ?_ <;> simp [subT, subO, onlyT, onlyO, isIn, look_cons, lookO_cons, lookO_nil, AV.only, AV.onlys, AO.only, onlys_map, onlys_append, e_only, e_int, e_bool]
  · refine AW.seq (AW.seq ?_)
    refine AW.reg cd68_3 fun K hK => ?_
    simp only [g68_3, bR, Nat.reduceEqDiff, reduceIte, Int.reduceBNe, Int.reduceBEq]
    refine .done (hK _ ?_); clear hK K; simp only [thenQ, blockQ]
    refine AW.ite ?_
    simp only [condQ, bR, Nat.reduceEqDiff, reduceIte, Int.reduceBNe, Int.reduceBEq]
    refine ⟨fun h => ?_, fun h => ?_⟩
    · have hlt : i < 6 := by simp at h; omega
      have hml := members_le w i
      refine AW.skip ?_; simp only [thenQ, blockQ, reduceIte, Nat.reduceEqDiff]
      refine AW.seq (AW.block ?_)
      refine AW.seq (AW.reg cd68_4 fun K hK => ?_)
      simp only [g68_4, bR, Nat.reduceEqDiff, reduceIte, Int.reduceBNe, Int.reduceBEq]
      refine .done (hK _ ?_); clear hK K; simp only [thenQ, blockQ]
      refine AW.ite ?_
      simp only [condQ, bR, Nat.reduceEqDiff, reduceIte, Int.reduceBNe, Int.reduceBEq]
      refine ⟨fun h => ?_, fun h => ?_⟩
      · have hb : bit w i = true := h
        refine AW.reg cd68_5 fun K hK => ?_
        simp only [g68_5, bR, Nat.reduceEqDiff, reduceIte, Int.reduceBNe, Int.reduceBEq]
        rw [appR3_enc 3 1 8 3 rfl rfl (by simp) (by simp [maxLen]; omega) (by simp; omega)]
        simp only [bR, Nat.reduceEqDiff, reduceIte, Int.reduceBNe, Int.reduceBEq]
        refine .done (hK _ ?_); clear hK K; simp only [thenQ, blockQ]
        refine AW.reg cd68_6 fun K hK => ?_
        simp only [g68_6, bR, Nat.reduceEqDiff, reduceIte, Int.reduceBNe, Int.reduceBEq]
        refine .done (hK _ ?_); clear hK K; simp only [thenQ, blockQ]
        refine ⟨i + 1, by omega, by omega, ?_⟩
        rw [wrap_id _ (by omega) (by omega)]
        simp only [members, hb, reduceIte]
        refine Sub.of_lists ?_ ?_ ?_ ?_ <;> simp [subT, subO, onlyT, onlyO, isIn, look_cons, lookO_cons, lookO_nil, AV.only, AV.onlys, AO.only, onlys_map, onlys_append, e_only, e_int, e_bool]
      · have hb : bit w i = false := h
        refine AW.skip ?_; simp only [thenQ, blockQ, reduceIte, Nat.reduceEqDiff]
        refine AW.reg cd68_6 fun K hK => ?_
        simp only [g68_6, bR, Nat.reduceEqDiff, reduceIte, Int.reduceBNe, Int.reduceBEq]
        refine .done (hK _ ?_); clear hK K; simp only [thenQ, blockQ]
        refine ⟨i + 1, by omega, by omega, ?_⟩
        rw [wrap_id _ (by omega) (by omega)]
        simp only [members, hb, reduceIte, Bool.false_eq_true, List.append_nil]
        refine Sub.of_lists ?_ ?_ ?_ ?_ <;> simp [subT, subO, onlyT, onlyO, isIn, look_cons, lookO_cons, lookO_nil, AV.only, AV.onlys, AO.only, onlys_map, onlys_append, e_only, e_int, e_bool]
    · have hge : i = 6 := by simp at h; omega
      subst hge
      refine AW.exit ?_; simp only [thenQ, blockQ, reduceIte, Nat.reduceEqDiff]
      refine AW.seq (AW.reg cd68_7 fun K hK => ?_)
      simp only [g68_7, bR, Nat.reduceEqDiff, reduceIte, Int.reduceBNe, Int.reduceBEq]
      refine .done (hK _ ?_); clear hK K; simp only [thenQ, blockQ]
      refine AW.ret ?_
      simp only [blockQ, thenQ, bR, Nat.reduceEqDiff, reduceIte, Int.reduceBNe, Int.reduceBEq]

/-- The order of lists of places. -/
def ahead : List Int → List Int → Bool
  | [], [] => false
  | [], _ :: _ => true
  | _ :: _, [] => false
  | a :: xs, b :: ys => if a = b then ahead xs ys else decide (a < b)

theorem ahead_drop (a b : List Int) (i : Nat) (ha : i < a.length) (hb : i < b.length) : ahead (a.drop i) (b.drop i) = if a.getD i 0 = b.getD i 0 then ahead (a.drop (i + 1)) (b.drop (i + 1)) else decide (a.getD i 0 < b.getD i 0) := by
  rw [List.drop_eq_getElem_cons ha, List.drop_eq_getElem_cons hb]
  simp [ahead, List.getD_eq_getElem?_getD, ha, hb]
theorem ahead_end (a b : List Int) (i : Nat) (ha : i ≤ a.length) (hb : i ≤ b.length) (h : a.length ≤ i ∨ b.length ≤ i) : ahead (a.drop i) (b.drop i) = decide (a.length < b.length) := by
  rcases h with h | h
  · have : i = a.length := by omega
    subst this
    rw [List.drop_length]
    cases hd : b.drop a.length with
    | nil => have := List.drop_eq_nil_iff.1 hd; simp [ahead]; omega
    | cons x xs =>
      have : ¬ b.length ≤ a.length := fun h => by rw [List.drop_eq_nil_iff.2 h] at hd; cases hd
      simp [ahead]; omega
  · have : i = b.length := by omega
    subst this
    rw [List.drop_length]
    have h2 : ¬ a.length < b.length := by omega
    cases hd : a.drop b.length <;> simp [ahead, h2]

theorem F70 (a b : List Int) : Ctr Try.prog 70 [enc a, enc b] (enc (ahead a b)) := by
  refine Ctr.mk' Try.func70 ca70 cc70 cr70 (Nat.le_of_ble_eq_true rfl) (fun hwf W0 D0 E1 => ?_)
  simp only [c70, r70, idx, Nat.zero_add, Nat.reduceAdd]
  have hlen : a.length ≤ maxLen := ((wf_list a).1 hwf.1).1
  simp only [maxLen] at hlen
  refine AW.seq (AW.reg cd70_0 fun K hK => ?_)
  simp only [g70_0, bR, Nat.reduceEqDiff, reduceIte, Int.reduceBNe, Int.reduceBEq]
  refine .done (hK _ ?_); clear hK K; simp only [thenQ, blockQ]
  refine AW.seq ?_
  refine AW.seq (AW.reg cd70_1 fun K hK => ?_)
  simp only [g70_1, bR, Nat.reduceEqDiff, reduceIte, Int.reduceBNe, Int.reduceBEq]
  refine .done (hK _ ?_); clear hK K; simp only [thenQ, blockQ]
  refine AW.block (AW.loop (fun i : Nat => mkA [(0, enc a), (1, enc b), (5, .int .i64 i)] []) (fun i => i ≤ a.length ∧ i ≤ b.length ∧ ahead a b = ahead (a.drop i) (b.drop i)) (fun i => a.length - i) 0 ⟨by omega, by omega, by simp⟩ ?_ (fun i hi => ?_))
  · refine Sub.of_lists ?_ ?_ ?_ ?_ <;> simp [subT, subO, onlyT, onlyO, isIn, look_cons, lookO_cons, lookO_nil, AV.only, AV.onlys, AO.only, onlys_map, onlys_append, e_only, e_int, e_bool]
  have fin : (a.length ≤ i ∨ b.length ≤ i) → ahead a b = decide (a.length < b.length) := fun h => by rw [hi.2.2, ahead_end a b i hi.1 hi.2.1 h]
  refine AW.seq (AW.seq ?_)
  refine AW.reg cd70_2 fun K hK => ?_
  simp only [g70_2, bR, Nat.reduceEqDiff, reduceIte, Int.reduceBNe, Int.reduceBEq]
  simp only [typR, useR, okR, bR, Nat.reduceEqDiff, reduceIte, Int.reduceBNe, Int.reduceBEq]
  generalize hz : decide ((i : Int) < a.length) = bz
  cases bz
  · have hge : a.length ≤ i := by simp at hz; omega
    simp only [typR, useR, okR, bR, Nat.reduceEqDiff, reduceIte, Int.reduceBNe, Int.reduceBEq]
    refine .done (hK _ ?_); clear hK K; simp only [thenQ, blockQ]
    refine AW.ite ?_
    simp only [condQ, bR, Nat.reduceEqDiff, reduceIte, Int.reduceBNe, Int.reduceBEq]
    refine ⟨fun h => ?_, fun h => ?_⟩
    · cases h
    refine AW.exit ?_; simp only [thenQ, blockQ, reduceIte, Nat.reduceEqDiff]
    refine AW.seq (AW.reg cd70_6 fun K hK => ?_)
    simp only [g70_6, bR, Nat.reduceEqDiff, reduceIte, Int.reduceBNe, Int.reduceBEq]
    simp only [useR, bR, Nat.reduceEqDiff, reduceIte, Int.reduceBNe, Int.reduceBEq]
    refine .done (hK _ ?_); clear hK K; simp only [thenQ, blockQ]
    refine AW.ret ?_
    simp only [blockQ, thenQ, bR, Nat.reduceEqDiff, reduceIte, Int.reduceBNe, Int.reduceBEq]
    rw [fin (.inl hge)]; simp
  have hla : i < a.length := by simpa using hz
  simp only [typR, useR, okR, bR, Nat.reduceEqDiff, reduceIte, Int.reduceBNe, Int.reduceBEq]
  refine .done (hK _ ?_); clear hK K; simp only [thenQ, blockQ]
  refine AW.ite ?_
  simp only [condQ, bR, Nat.reduceEqDiff, reduceIte, Int.reduceBNe, Int.reduceBEq]
  refine ⟨fun h => ?_, fun h => ?_⟩
  case refine_2.true.refine_2 =>
    have hge : b.length ≤ i := by simp at h; omega
    refine AW.exit ?_; simp only [thenQ, blockQ, reduceIte, Nat.reduceEqDiff]
    refine AW.seq (AW.reg cd70_6 fun K hK => ?_)
    simp only [g70_6, bR, Nat.reduceEqDiff, reduceIte, Int.reduceBNe, Int.reduceBEq]
    simp only [useR, bR, Nat.reduceEqDiff, reduceIte, Int.reduceBNe, Int.reduceBEq]
    refine .done (hK _ ?_); clear hK K; simp only [thenQ, blockQ]
    refine AW.ret ?_
    simp only [blockQ, thenQ, bR, Nat.reduceEqDiff, reduceIte, Int.reduceBNe, Int.reduceBEq]
    rw [fin (.inr hge)]; simp
  have hlb : i < b.length := by simpa using h
  have hstep := hi.2.2.trans (ahead_drop a b i hla hlb)
  refine AW.skip ?_; simp only [thenQ, blockQ, reduceIte, Nat.reduceEqDiff]
  refine AW.seq (AW.block ?_)
  refine AW.seq (AW.reg cd70_3 fun K hK => ?_)
  simp only [g70_3, bR, Nat.reduceEqDiff, reduceIte, Int.reduceBNe, Int.reduceBEq]
  simp only [isE_getD hla, isE_getD hlb, okR, bR, Nat.reduceEqDiff, reduceIte, Int.reduceBNe, Int.reduceBEq]
  refine .done (hK _ ?_); clear hK K; simp only [thenQ, blockQ]
  refine AW.ite ?_
  simp only [condQ, bR, Nat.reduceEqDiff, reduceIte, Int.reduceBNe, Int.reduceBEq]
  refine ⟨fun h => ?_, fun h => ?_⟩
  · have hne : ¬ a.getD i 0 = b.getD i 0 := by simpa using h
    rw [if_neg hne] at hstep
    refine AW.seq (AW.reg cd70_4 fun K hK => ?_)
    simp only [g70_4, bR, Nat.reduceEqDiff, reduceIte, Int.reduceBNe, Int.reduceBEq]
    simp only [isE_getD hla, isE_getD hlb, okR, bR, Nat.reduceEqDiff, reduceIte, Int.reduceBNe, Int.reduceBEq]
    refine .done (hK _ ?_); clear hK K; simp only [thenQ, blockQ]
    refine AW.ret ?_
    simp only [blockQ, thenQ, bR, Nat.reduceEqDiff, reduceIte, Int.reduceBNe, Int.reduceBEq]
    rw [hstep]
  have heq : a.getD i 0 = b.getD i 0 := by simpa using h
  rw [if_pos heq] at hstep
  refine AW.skip ?_; simp only [thenQ, blockQ, reduceIte, Nat.reduceEqDiff]
  refine AW.reg cd70_5 fun K hK => ?_
  simp only [g70_5, bR, Nat.reduceEqDiff, reduceIte, Int.reduceBNe, Int.reduceBEq]
  refine .done (hK _ ?_); clear hK K; simp only [thenQ, blockQ]
  refine ⟨i + 1, ⟨by omega, by omega, hstep⟩, by omega, ?_⟩
  rw [wrap_id _ (by omega) (by omega)]
  refine Sub.of_lists ?_ ?_ ?_ ?_ <;> simp [subT, subO, onlyT, onlyO, isIn, look_cons, lookO_cons, lookO_nil, AV.only, AV.onlys, AO.only, onlys_map, onlys_append, e_only, e_int, e_bool]

end Go.Proofs.Ytkjkbpgdpnapfaa

/-
  EQUALITY OF ARRAYS AND OF GIVEN MARKS, AS THE PROGRAM TELLS IT; by contract: SameMarks (under way).
-/
namespace Go.Proofs.Ytkjkbpgdpnapfaa
open Go Go.Abs
open Go.Abs.Enc (enc)

theorem eqE_int (a b : Int) : eqE (.i .i64) (enc a) (enc b) = some (a == b) := by simp [e_int, eqE]
theorem foldr_ints : ∀ (x y : List Int), x.length = y.length → ((x.map (enc (α := Int))).zip (y.map (enc (α := Int)))).foldr (fun p acc => andO (eqE (.i .i64) p.1 p.2) acc) (some true) = some (decide (x = y))
  | [], [], _ => by simp
  | a :: x, b :: y, h => by
    have ih := foldr_ints x y (by simpa using h)
    rw [List.map_cons, List.map_cons, List.zip_cons_cons, List.foldr_cons, ih, eqE_int]
    by_cases hab : a = b <;> by_cases hxy : x = y <;> simp [andO, hab, hxy]
theorem eqE_arr {n : Nat} (x y : Arr n Int) : eqE (.ar n (.i .i64)) (enc x) (enc y) = some (decide (x.l = y.l)) := by
  change eqE (.ar n (.i .i64)) (.agg (x.l.map enc)) (.agg (y.l.map enc)) = _
  rw [eqE, if_pos ⟨by simp [x.h], by simp [y.h]⟩]
  exact foldr_ints x.l y.l (by rw [x.h, y.h])
theorem eqE_given (x y : Given) : eqE (.st [.i .i64, .ar 6 (.i .i64)]) (enc x) (enc y) = some (decide (x.owner = y.owner) && decide (x.mark.l = y.mark.l)) := by
  change eqE _ (.agg [enc x.owner, enc x.mark]) (.agg [enc y.owner, enc y.mark]) = _
  rw [eqE, eqEs, eqEs, eqEs, eqE_arr, eqE_int]
  by_cases h : x.owner = y.owner <;> by_cases h2 : x.mark.l = y.mark.l <;> simp [h, h2, andO]

end Go.Proofs.Ytkjkbpgdpnapfaa

/-
  FUNCTIONS OF THE REFERENCE BY CONTRACT: SameMarks.
-/
namespace Go.Proofs.Ytkjkbpgdpnapfaa
open Go Go.Abs
open Go.Abs.Enc (enc)

def sameG (x y : Given) : Bool := decide (x.owner = y.owner) && decide (x.mark.l = y.mark.l)
def sameM (a b : Marks) : Bool := decide (a.wear.l = b.wear.l) && (decide (a.fls = b.fls) && (decide (a.given.length = b.given.length) && (List.range a.given.length).all fun i => sameG (gv a i) (gv b i)))

theorem F63 (a b : Marks) : Ctr Try.prog 63 [enc a, enc b] (enc (sameM a b)) := by
  refine Ctr.mk' Try.func63 ca63 cc63 cr63 (Nat.le_of_ble_eq_true rfl) (fun hwf W0 D0 E1 => ?_)
  simp only [c63, r63, idx, Nat.zero_add, Nat.reduceAdd]
  have hlen : a.given.length ≤ maxLen := ((wf_list a.given).1 hwf.1.2.2.1).1
  simp only [maxLen] at hlen
  refine AW.seq (AW.reg cd63_0 fun K hK => ?_)
  simp only [g63_0, bR, Nat.reduceEqDiff, reduceIte, Int.reduceBNe, Int.reduceBEq]
  refine .done (hK _ ?_); clear hK K; simp only [thenQ, blockQ]
  refine AW.seq (AW.seq ?_)
  refine AW.reg cd63_1 fun K hK => ?_
  simp only [g63_1, bR, Nat.reduceEqDiff, reduceIte, Int.reduceBNe, Int.reduceBEq]
  simp only [typR, useR, okR, eqE_arr, Option.map_some, reduceIte, bR, Nat.reduceEqDiff, reduceIte, Int.reduceBNe, Int.reduceBEq]
  generalize hw : decide (a.wear.l = b.wear.l) = bw
  cases bw
  · simp only [typR, useR, okR, bR, Nat.reduceEqDiff, reduceIte, Int.reduceBNe, Int.reduceBEq]
    refine .done (hK _ ?_); clear hK K; simp only [thenQ, blockQ]
    refine AW.ite ?_
    simp only [condQ, bR, Nat.reduceEqDiff, reduceIte, Int.reduceBNe, Int.reduceBEq]
    refine ⟨fun h => ?_, fun h => ?_⟩
    · refine AW.seq (AW.reg cd63_2 fun K hK => ?_)
      simp only [g63_2, bR, Nat.reduceEqDiff, reduceIte, Int.reduceBNe, Int.reduceBEq]
      refine .done (hK _ ?_); clear hK K; simp only [thenQ, blockQ]
      refine AW.ret ?_
      simp only [blockQ, thenQ, bR, Nat.reduceEqDiff, reduceIte, Int.reduceBNe, Int.reduceBEq]
      simp [sameM, hw]
    · cases h
  simp only [typR, useR, okR, bR, Nat.reduceEqDiff, reduceIte, Int.reduceBNe, Int.reduceBEq]
  generalize hf : (a.fls != b.fls) = bf
  cases bf
  case true =>
    simp only [typR, useR, okR, bR, Nat.reduceEqDiff, reduceIte, Int.reduceBNe, Int.reduceBEq]
    refine .done (hK _ ?_); clear hK K; simp only [thenQ, blockQ]
    refine AW.ite ?_
    simp only [condQ, bR, Nat.reduceEqDiff, reduceIte, Int.reduceBNe, Int.reduceBEq]
    refine ⟨fun h => ?_, fun h => ?_⟩
    · refine AW.seq (AW.reg cd63_2 fun K hK => ?_)
      simp only [g63_2, bR, Nat.reduceEqDiff, reduceIte, Int.reduceBNe, Int.reduceBEq]
      refine .done (hK _ ?_); clear hK K; simp only [thenQ, blockQ]
      refine AW.ret ?_
      simp only [blockQ, thenQ, bR, Nat.reduceEqDiff, reduceIte, Int.reduceBNe, Int.reduceBEq]
      have : a.fls ≠ b.fls := by simpa using hf
      simp [sameM, this]
    · cases h
  have hf' : a.fls = b.fls := by simpa using hf
  simp only [typR, useR, okR, bR, Nat.reduceEqDiff, reduceIte, Int.reduceBNe, Int.reduceBEq]
  refine .done (hK _ ?_); clear hK K; simp only [thenQ, blockQ]
  refine AW.ite ?_
  simp only [condQ, bR, Nat.reduceEqDiff, reduceIte, Int.reduceBNe, Int.reduceBEq]
  refine ⟨fun h => ?_, fun h => ?_⟩
  · refine AW.seq (AW.reg cd63_2 fun K hK => ?_)
    simp only [g63_2, bR, Nat.reduceEqDiff, reduceIte, Int.reduceBNe, Int.reduceBEq]
    refine .done (hK _ ?_); clear hK K; simp only [thenQ, blockQ]
    refine AW.ret ?_
    simp only [blockQ, thenQ, bR, Nat.reduceEqDiff, reduceIte, Int.reduceBNe, Int.reduceBEq]
    have : a.given.length ≠ b.given.length := by simp at h; omega
    simp [sameM, this]
  have hl : a.given.length = b.given.length := by simp at h; omega
  refine AW.skip ?_; simp only [thenQ, blockQ, reduceIte, Nat.reduceEqDiff]
  refine AW.seq ?_
  refine AW.seq (AW.reg cd63_3 fun K hK => ?_)
  simp only [g63_3, bR, Nat.reduceEqDiff, reduceIte, Int.reduceBNe, Int.reduceBEq]
  refine .done (hK _ ?_); clear hK K; simp only [thenQ, blockQ]
  refine AW.block (AW.loop (fun i : Nat => mkA [(2, .ptr 2 []), (3, .ptr 3 []), (5, .int .i64 i)] [(2, .box (enc a)), (3, .box (enc b))]) (fun i => i ≤ a.given.length ∧ ∀ j, j < i → sameG (gv a j) (gv b j) = true) (fun i => a.given.length - i) 0 ⟨by omega, fun k h => by omega⟩ ?_ (fun i hi => ?_))
  · refine Sub.of_lists ?_ ?_ ?_ ?_ <;> simp [subT, subO, onlyT, onlyO, isIn, look_cons, lookO_cons, lookO_nil, AV.only, AV.onlys, AO.only, onlys_map, onlys_append, e_only, e_int, e_bool]
  refine AW.seq (AW.seq ?_)
  refine AW.reg cd63_4 fun K hK => ?_
  simp only [g63_4, bR, Nat.reduceEqDiff, reduceIte, Int.reduceBNe, Int.reduceBEq]
  simp only [typR, useR, okR, bR, Nat.reduceEqDiff, reduceIte, Int.reduceBNe, Int.reduceBEq]
  refine .done (hK _ ?_); clear hK K; simp only [thenQ, blockQ]
  refine AW.ite ?_
  simp only [condQ, bR, Nat.reduceEqDiff, reduceIte, Int.reduceBNe, Int.reduceBEq]
  refine ⟨fun h => ?_, fun h => ?_⟩
  · have hlt : i < a.given.length := by simpa using h
    have hlb : i < b.given.length := by omega
    refine AW.skip ?_; simp only [thenQ, blockQ, reduceIte, Nat.reduceEqDiff]
    refine AW.seq (AW.block ?_)
    refine AW.seq (AW.reg cd63_5 fun K hK => ?_)
    simp only [g63_5, bR, Nat.reduceEqDiff, reduceIte, Int.reduceBNe, Int.reduceBEq]
    simp only [typR, useR, okR, isE_gv hlt, isE_gv hlb, eqE_given, Option.map_some, reduceIte, bR, Nat.reduceEqDiff, reduceIte, Int.reduceBNe, Int.reduceBEq]
    refine .done (hK _ ?_); clear hK K; simp only [thenQ, blockQ]
    refine AW.ite ?_
    simp only [condQ, bR, Nat.reduceEqDiff, reduceIte, Int.reduceBNe, Int.reduceBEq]
    refine ⟨fun h => ?_, fun h => ?_⟩
    · refine AW.seq (AW.reg cd63_6 fun K hK => ?_)
      simp only [g63_6, bR, Nat.reduceEqDiff, reduceIte, Int.reduceBNe, Int.reduceBEq]
      refine .done (hK _ ?_); clear hK K; simp only [thenQ, blockQ]
      refine AW.ret ?_
      simp only [blockQ, thenQ, bR, Nat.reduceEqDiff, reduceIte, Int.reduceBNe, Int.reduceBEq]
      have hs : sameG (gv a i) (gv b i) = false := by
        have h' : (!sameG (gv a i) (gv b i)) = true := h
        simpa using h'
      have : (List.range a.given.length).all (fun i => sameG (gv a i) (gv b i)) = false := all_false i hlt hs
      simp only [sameM, this, Bool.and_false]
    have hs : sameG (gv a i) (gv b i) = true := by
      have h' : (!sameG (gv a i) (gv b i)) = false := h
      simpa using h'
    refine AW.skip ?_; simp only [thenQ, blockQ, reduceIte, Nat.reduceEqDiff]
    refine AW.reg cd63_7 fun K hK => ?_
    simp only [g63_7, bR, Nat.reduceEqDiff, reduceIte, Int.reduceBNe, Int.reduceBEq]
    refine .done (hK _ ?_); clear hK K; simp only [thenQ, blockQ]
    refine ⟨i + 1, ⟨by omega, fun k hk' => ?_⟩, by omega, ?_⟩
    · by_cases hki : k = i
      · rw [hki]; exact hs
      · exact hi.2 k (by omega)
    · rw [wrap_id _ (by omega) (by omega)]
      refine Sub.of_lists ?_ ?_ ?_ ?_ <;> simp [subT, subO, onlyT, onlyO, isIn, look_cons, lookO_cons, lookO_nil, AV.only, AV.onlys, AO.only, onlys_map, onlys_append, e_only, e_int, e_bool]
  · have hge : i = a.given.length := by simp at h; omega
    subst hge
    refine AW.exit ?_; simp only [thenQ, blockQ, reduceIte, Nat.reduceEqDiff]
    refine AW.seq (AW.reg cd63_8 fun K hK => ?_)
    simp only [g63_8, bR, Nat.reduceEqDiff, reduceIte, Int.reduceBNe, Int.reduceBEq]
    refine .done (hK _ ?_); clear hK K; simp only [thenQ, blockQ]
    refine AW.ret ?_
    simp only [blockQ, thenQ, bR, Nat.reduceEqDiff, reduceIte, Int.reduceBNe, Int.reduceBEq]
    have : (List.range a.given.length).all (fun i => sameG (gv a i) (gv b i)) = true := all_true hi.2
    simp only [sameM, this, hw, decide_eq_true hf', decide_eq_true hl, Bool.and_self]

end Go.Proofs.Ytkjkbpgdpnapfaa

/-
  FUNCTIONS OF THE REFERENCE BY CONTRACT: Wears.
-/
namespace Go.Proofs.Ytkjkbpgdpnapfaa
open Go Go.Abs
open Go.Abs.Enc (enc)

def zero5 : Arr 5 Int := ⟨List.replicate 5 0, rfl⟩
theorem e_zero5 : AV.agg [.int .i64 0, .int .i64 0, .int .i64 0, .int .i64 0, .int .i64 0] = enc zero5 := rfl
def bor (a b : Int) : Int := IntKind.i64.wrap ((BitVec.ofInt IntKind.i64.bits a ||| BitVec.ofInt IntKind.i64.bits b).toNat : Int)
def wearAt (c : List Int) (k : Nat) (x : Arr 5 Int) : Arr 5 Int :=
  if at' c k % 12 < 5 then upd (upd x k (shl 1 k)) k (bor ((upd x k (shl 1 k)).g k) (shl 1 (at' c k % 12).toNat)) else upd x k (shl 1 k)
def wears (c : List Int) : Nat → Arr 5 Int
  | 0 => zero5
  | k + 1 => wearAt c k (wears c k)

theorem F34 (c : List Int) (hc : c.length ≤ 4611686018427387904) : Ctr Try.prog 34 [enc c] (enc (wears c 5)) := by
  refine Ctr.mk' Try.func34 ca34 cc34 cr34 (Nat.le_of_ble_eq_true rfl) (fun hwf W0 D0 E1 => ?_)
  simp only [c34, r34, idx, Nat.zero_add, Nat.reduceAdd]
  refine AW.seq (AW.reg cd34_0 fun K hK => ?_)
  simp only [g34_0, bR, Nat.reduceEqDiff, reduceIte, Int.reduceBNe, Int.reduceBEq]
  refine .done (hK _ ?_); clear hK K; simp only [thenQ, blockQ]
  refine AW.seq (AW.reg cd34_1 fun K hK => ?_)
  simp only [g34_1, bR, Nat.reduceEqDiff, reduceIte, Int.reduceBNe, Int.reduceBEq]
  simp only [e_zero5]
  refine .done (hK _ ?_); clear hK K; simp only [thenQ, blockQ]
  refine AW.seq (AW.seq ?_)
  refine AW.reg cd34_2 fun K hK => ?_
  simp only [g34_2, bR, Nat.reduceEqDiff, reduceIte, Int.reduceBNe, Int.reduceBEq]
  refine .done (hK _ ?_); clear hK K; simp only [thenQ, blockQ]
  refine AW.block (AW.loop (fun k : Nat => mkA [(0, enc c), (2, .ptr 2 []), (3, .ptr 3 []), (4, .int .i64 k)] [(2, .box (enc zero5)), (3, .box (enc (wears c k)))]) (fun k => k ≤ 5) (fun k => 5 - k) 0 (by omega) ?_ (fun k hk => ?_))
  · refine Sub.of_lists ?_ ?_ ?_ ?_ <;> simp [subT, subO, onlyT, onlyO, isIn, look_cons, lookO_cons, lookO_nil, AV.only, AV.onlys, AO.only, onlys_map, onlys_append, e_only, e_int, e_bool]
    all_goals rfl
  refine AW.seq (AW.seq ?_)
  refine AW.reg cd34_3 fun K hK => ?_
  simp only [g34_3, bR, Nat.reduceEqDiff, reduceIte, Int.reduceBNe, Int.reduceBEq]
  refine .done (hK _ ?_); clear hK K; simp only [thenQ, blockQ]
  refine AW.ite ?_
  simp only [condQ, bR, Nat.reduceEqDiff, reduceIte, Int.reduceBNe, Int.reduceBEq]
  refine ⟨fun h => ?_, fun h => ?_⟩
  · have hlt : k < 5 := by simp at h; omega
    refine AW.skip ?_; simp only [thenQ, blockQ, reduceIte, Nat.reduceEqDiff]
    refine AW.seq (AW.block ?_)
    refine AW.seq (AW.reg cd34_4 fun K hK => ?_)
    simp only [g34_4, bR, Nat.reduceEqDiff, reduceIte, Int.reduceBNe, Int.reduceBEq]
    simp only [useR, inB_nat 1 (wears c k) hlt rfl, atL_g (wears c k) hlt, stR3_g (wears c k) hlt, bR, Nat.reduceEqDiff, reduceIte, Int.reduceBNe, Int.reduceBEq]
    refine .done (hK _ ?_); clear hK K; simp only [thenQ, blockQ]
    refine AW.seq (AW.reg cd34_5 fun K hK => ?_)
    simp only [g34_5, bR, Nat.reduceEqDiff, reduceIte, Int.reduceBNe, Int.reduceBEq]
    simp only [e_fin, bR, Nat.reduceEqDiff, reduceIte, Int.reduceBNe, Int.reduceBEq]
    refine .flat _ (F25 c k hc) rfl ?_
    simp only [e_fin, bR, Nat.reduceEqDiff, reduceIte, Int.reduceBNe, Int.reduceBEq]
    refine .flat _ (F23 (at' c k) 12 (by omega) (by omega)) rfl ?_
    simp only [bR, Nat.reduceEqDiff, reduceIte, Int.reduceBNe, Int.reduceBEq]
    refine .done (hK _ ?_); clear hK K; simp only [thenQ, blockQ]
    refine AW.seq (AW.reg cd34_6 fun K hK => ?_)
    simp only [g34_6, bR, Nat.reduceEqDiff, reduceIte, Int.reduceBNe, Int.reduceBEq]
    refine .done (hK _ ?_); clear hK K; simp only [thenQ, blockQ]
    have h0 : 0 ≤ at' c k % 12 := Int.emod_nonneg _ (by omega)
    refine AW.ite ?_
    simp only [condQ, bR, Nat.reduceEqDiff, reduceIte, Int.reduceBNe, Int.reduceBEq]
    refine ⟨fun h => ?_, fun h => ?_⟩
    · have h5 : at' c k % 12 < 5 := by simpa using h
      have e1 : IntKind.i64.wrap (1 * 2 ^ min k IntKind.i64.bits) = shl 1 k := rfl
      refine AW.reg cd34_7 fun K hK => ?_
      simp only [g34_7, bR, Nat.reduceEqDiff, reduceIte, Int.reduceBNe, Int.reduceBEq]
      simp only [e1, useR, inB_nat 1 (upd (wears c k) k (shl 1 k)) hlt rfl, atL_g (upd (wears c k) k (shl 1 k)) hlt, h0, bR, Nat.reduceEqDiff, reduceIte, Int.reduceBNe, Int.reduceBEq]
      simp only [e1, useR, inB_nat 1 (upd (wears c k) k (shl 1 k)) hlt rfl, atL_g (upd (wears c k) k (shl 1 k)) hlt, stR3_g (upd (wears c k) k (shl 1 k)) hlt, h0, bR, Nat.reduceEqDiff, reduceIte, Int.reduceBNe, Int.reduceBEq]
      refine .done (hK _ ?_); clear hK K; simp only [thenQ, blockQ]
      refine AW.reg cd34_8 fun K hK => ?_
      simp only [g34_8, bR, Nat.reduceEqDiff, reduceIte, Int.reduceBNe, Int.reduceBEq]
      refine .done (hK _ ?_); clear hK K; simp only [thenQ, blockQ]
      refine ⟨k + 1, by omega, by omega, ?_⟩
      rw [wrap_id _ (by omega) (by omega)]
      simp only [wears, wearAt, if_pos h5]
      refine Sub.of_lists ?_ ?_ ?_ ?_ <;> simp [subT, subO, onlyT, onlyO, isIn, look_cons, lookO_cons, lookO_nil, AV.only, AV.onlys, AO.only, onlys_map, onlys_append, e_only, e_int, e_bool]
      all_goals simp [bor, shl]
    · have h5 : ¬ at' c k % 12 < 5 := by simpa using h
      refine AW.skip ?_; simp only [thenQ, blockQ, reduceIte, Nat.reduceEqDiff]
      refine AW.reg cd34_8 fun K hK => ?_
      simp only [g34_8, bR, Nat.reduceEqDiff, reduceIte, Int.reduceBNe, Int.reduceBEq]
      refine .done (hK _ ?_); clear hK K; simp only [thenQ, blockQ]
      refine ⟨k + 1, by omega, by omega, ?_⟩
      rw [wrap_id _ (by omega) (by omega)]
      simp only [wears, wearAt, if_neg h5]
      refine Sub.of_lists ?_ ?_ ?_ ?_ <;> simp [subT, subO, onlyT, onlyO, isIn, look_cons, lookO_cons, lookO_nil, AV.only, AV.onlys, AO.only, onlys_map, onlys_append, e_only, e_int, e_bool]
      all_goals simp [bor, shl]
  · have hge : k = 5 := by simp at h; omega
    subst hge
    refine AW.exit ?_; simp only [thenQ, blockQ, reduceIte, Nat.reduceEqDiff]
    refine AW.seq (AW.reg cd34_9 fun K hK => ?_)
    simp only [g34_9, bR, Nat.reduceEqDiff, reduceIte, Int.reduceBNe, Int.reduceBEq]
    simp only [typR, useR, bR, Nat.reduceEqDiff, reduceIte, Int.reduceBNe, Int.reduceBEq]
    rw [stR3_ok (e_isVal _) (by rw [e_okS]; rfl) ((e_sh _).trans (e_sh _).symm)]
    simp only [bR, Nat.reduceEqDiff, reduceIte, Int.reduceBNe, Int.reduceBEq]
    refine .done (hK _ ?_); clear hK K; simp only [thenQ, blockQ]
    refine AW.ret ?_
    simp only [blockQ, thenQ, bR, Nat.reduceEqDiff, reduceIte, Int.reduceBNe, Int.reduceBEq]
    simp only [typR, e_fin, bR, Nat.reduceEqDiff, reduceIte, Int.reduceBNe, Int.reduceBEq]

end Go.Proofs.Ytkjkbpgdpnapfaa

/-
  FUNCTIONS OF THE REFERENCE BY CONTRACT: Possible.
-/
namespace Go.Proofs.Ytkjkbpgdpnapfaa
open Go Go.Abs
open Go.Abs.Enc (enc)

def possR (m : Marks) (a r : Arr 6 Int) : Bool × Int := if okM m then (if okMark a then (if okReading r then (decide (costOf m.wear a r ≤ m.fls), 0) else (false, 12)) else (false, 10)) else (false, 13)

theorem F52 (m : Marks) (a r : Arr 6 Int) : Ctr Try.prog 52 [enc m, enc a, enc r] (.tuple [enc (possR m a r).1, enc (possR m a r).2]) := by
  refine Ctr.mk' Try.func52 ca52 cc52 cr52 (Nat.le_of_ble_eq_true rfl) (fun hwf W0 D0 E1 => ?_)
  simp only [c52, r52, idx, Nat.zero_add, Nat.reduceAdd]
  refine AW.seq (AW.reg cd52_0 fun K hK => ?_)
  simp only [g52_0, bR, Nat.reduceEqDiff, reduceIte, Int.reduceBNe, Int.reduceBEq]
  refine .done (hK _ ?_); clear hK K; simp only [thenQ, blockQ]
  refine AW.seq (AW.seq ?_)
  refine AW.reg cd52_1 fun K hK => ?_
  simp only [g52_1, bR, Nat.reduceEqDiff, reduceIte, Int.reduceBNe, Int.reduceBEq]
  simp only [typR, useR, okR, e_fin, bR, Nat.reduceEqDiff, reduceIte, Int.reduceBNe, Int.reduceBEq]
  refine .flat _ (F48 m) rfl ?_
  generalize hm : okM m = bm
  cases bm
  · simp only [typR, useR, okR, bR, Nat.reduceEqDiff, reduceIte, Int.reduceBNe, Int.reduceBEq]
    refine .done (hK _ ?_); clear hK K; simp only [thenQ, blockQ]
    refine AW.ite ?_
    simp only [condQ, bR, Nat.reduceEqDiff, reduceIte, Int.reduceBNe, Int.reduceBEq]
    refine ⟨fun h => ?_, fun h => ?_⟩
    · refine AW.seq (AW.reg cd52_2 fun K hK => ?_)
      simp only [g52_2, bR, Nat.reduceEqDiff, reduceIte, Int.reduceBNe, Int.reduceBEq]
      refine .done (hK _ ?_); clear hK K; simp only [thenQ, blockQ]
      refine AW.ret ?_
      simp only [blockQ, thenQ, bR, Nat.reduceEqDiff, reduceIte, Int.reduceBNe, Int.reduceBEq]
      simp [possR, hm]
    · cases h
  simp only [typR, useR, okR, bR, Nat.reduceEqDiff, reduceIte, Int.reduceBNe, Int.reduceBEq]
  refine .done (hK _ ?_); clear hK K; simp only [thenQ, blockQ]
  refine AW.ite ?_
  simp only [condQ, bR, Nat.reduceEqDiff, reduceIte, Int.reduceBNe, Int.reduceBEq]
  refine ⟨fun h => ?_, fun h => ?_⟩
  · cases h
  refine AW.skip ?_; simp only [thenQ, blockQ, reduceIte, Nat.reduceEqDiff]
  refine AW.seq (AW.seq ?_)
  refine AW.reg cd52_3 fun K hK => ?_
  simp only [g52_3, bR, Nat.reduceEqDiff, reduceIte, Int.reduceBNe, Int.reduceBEq]
  simp only [typR, useR, okR, e_fin, bR, Nat.reduceEqDiff, reduceIte, Int.reduceBNe, Int.reduceBEq]
  refine .flat _ (F42' a) rfl ?_
  generalize ha : okMark a = ba
  cases ba
  · simp only [typR, useR, okR, bR, Nat.reduceEqDiff, reduceIte, Int.reduceBNe, Int.reduceBEq]
    refine .done (hK _ ?_); clear hK K; simp only [thenQ, blockQ]
    refine AW.ite ?_
    simp only [condQ, bR, Nat.reduceEqDiff, reduceIte, Int.reduceBNe, Int.reduceBEq]
    refine ⟨fun h => ?_, fun h => ?_⟩
    · refine AW.seq (AW.reg cd52_4 fun K hK => ?_)
      simp only [g52_4, bR, Nat.reduceEqDiff, reduceIte, Int.reduceBNe, Int.reduceBEq]
      refine .done (hK _ ?_); clear hK K; simp only [thenQ, blockQ]
      refine AW.ret ?_
      simp only [blockQ, thenQ, bR, Nat.reduceEqDiff, reduceIte, Int.reduceBNe, Int.reduceBEq]
      simp [possR, hm, ha]
    · cases h
  simp only [typR, useR, okR, bR, Nat.reduceEqDiff, reduceIte, Int.reduceBNe, Int.reduceBEq]
  refine .done (hK _ ?_); clear hK K; simp only [thenQ, blockQ]
  refine AW.ite ?_
  simp only [condQ, bR, Nat.reduceEqDiff, reduceIte, Int.reduceBNe, Int.reduceBEq]
  refine ⟨fun h => ?_, fun h => ?_⟩
  · cases h
  refine AW.skip ?_; simp only [thenQ, blockQ, reduceIte, Nat.reduceEqDiff]
  refine AW.seq (AW.seq ?_)
  refine AW.reg cd52_5 fun K hK => ?_
  simp only [g52_5, bR, Nat.reduceEqDiff, reduceIte, Int.reduceBNe, Int.reduceBEq]
  simp only [typR, useR, okR, e_fin, bR, Nat.reduceEqDiff, reduceIte, Int.reduceBNe, Int.reduceBEq]
  refine .flat _ (F46' r) rfl ?_
  generalize hr : okReading r = br
  cases br
  · simp only [typR, useR, okR, bR, Nat.reduceEqDiff, reduceIte, Int.reduceBNe, Int.reduceBEq]
    refine .done (hK _ ?_); clear hK K; simp only [thenQ, blockQ]
    refine AW.ite ?_
    simp only [condQ, bR, Nat.reduceEqDiff, reduceIte, Int.reduceBNe, Int.reduceBEq]
    refine ⟨fun h => ?_, fun h => ?_⟩
    · refine AW.seq (AW.reg cd52_6 fun K hK => ?_)
      simp only [g52_6, bR, Nat.reduceEqDiff, reduceIte, Int.reduceBNe, Int.reduceBEq]
      refine .done (hK _ ?_); clear hK K; simp only [thenQ, blockQ]
      refine AW.ret ?_
      simp only [blockQ, thenQ, bR, Nat.reduceEqDiff, reduceIte, Int.reduceBNe, Int.reduceBEq]
      simp [possR, hm, ha, hr]
    · cases h
  simp only [typR, useR, okR, bR, Nat.reduceEqDiff, reduceIte, Int.reduceBNe, Int.reduceBEq]
  refine .done (hK _ ?_); clear hK K; simp only [thenQ, blockQ]
  refine AW.ite ?_
  simp only [condQ, bR, Nat.reduceEqDiff, reduceIte, Int.reduceBNe, Int.reduceBEq]
  refine ⟨fun h => ?_, fun h => ?_⟩
  · cases h
  refine AW.skip ?_; simp only [thenQ, blockQ, reduceIte, Nat.reduceEqDiff]
  refine AW.seq (AW.reg cd52_7 fun K hK => ?_)
  simp only [g52_7, bR, Nat.reduceEqDiff, reduceIte, Int.reduceBNe, Int.reduceBEq]
  simp only [typR, useR, okR, e_fin, bR, Nat.reduceEqDiff, reduceIte, Int.reduceBNe, Int.reduceBEq]
  refine .flat _ (F86 m.wear a r ha) rfl ?_
  simp only [typR, useR, okR, bR, Nat.reduceEqDiff, reduceIte, Int.reduceBNe, Int.reduceBEq]
  refine .done (hK _ ?_); clear hK K; simp only [thenQ, blockQ]
  refine AW.ret ?_
  simp only [blockQ, thenQ, bR, Nat.reduceEqDiff, reduceIte, Int.reduceBNe, Int.reduceBEq]
  simp [possR, hm, ha, hr]

end Go.Proofs.Ytkjkbpgdpnapfaa

/-
  FUNCTIONS OF THE PACKAGE mark BY CONTRACT: isMark, isReading, isWear, isOwner, CheckMark, CheckReading, CheckWear; IndexFunc and ContainsFunc over whole numbers.
-/
namespace Go.Proofs.Ytkjkbpgdpnapfaa
open Go Go.Abs
open Go.Abs.Enc (enc)

theorem F116 (n : Int) : Ctr Try.prog 116 [enc n] (enc (!inR 0 4 n)) := by
  refine Ctr.mk' Try.func116 ca116 cc116 cr116 (Nat.le_of_ble_eq_true rfl) (fun hwf W0 D0 E1 => ?_)
  simp only [c116, r116, idx, Nat.zero_add, Nat.reduceAdd]
  refine AW.seq (AW.reg cd116_0 fun K hK => ?_)
  simp only [g116_0, bR, Nat.reduceEqDiff, reduceIte, Int.reduceBNe, Int.reduceBEq]
  refine .done (hK _ ?_); clear hK K; simp only [thenQ, blockQ]
  refine AW.seq (AW.reg cd116_1 fun K hK => ?_)
  simp only [g116_1, bR, Nat.reduceEqDiff, reduceIte, Int.reduceBNe, Int.reduceBEq]
  refine .flat _ (F89 n 0 4) rfl ?_
  simp only [bR, Nat.reduceEqDiff, reduceIte, Int.reduceBNe, Int.reduceBEq]
  refine .done (hK _ ?_); clear hK K; simp only [thenQ, blockQ]
  refine AW.ret ?_
  simp only [blockQ, thenQ, bR, Nat.reduceEqDiff, reduceIte, Int.reduceBNe, Int.reduceBEq]

theorem F118 (n : Int) : Ctr Try.prog 118 [enc n] (enc (!inR 1 31 n)) := by
  refine Ctr.mk' Try.func118 ca118 cc118 cr118 (Nat.le_of_ble_eq_true rfl) (fun hwf W0 D0 E1 => ?_)
  simp only [c118, r118, idx, Nat.zero_add, Nat.reduceAdd]
  refine AW.seq (AW.reg cd118_0 fun K hK => ?_)
  simp only [g118_0, bR, Nat.reduceEqDiff, reduceIte, Int.reduceBNe, Int.reduceBEq]
  refine .done (hK _ ?_); clear hK K; simp only [thenQ, blockQ]
  refine AW.seq (AW.reg cd118_1 fun K hK => ?_)
  simp only [g118_1, bR, Nat.reduceEqDiff, reduceIte, Int.reduceBNe, Int.reduceBEq]
  generalize hz : (n == 0) = z
  cases z
  · simp only [bR, Nat.reduceEqDiff, reduceIte, Int.reduceBNe, Int.reduceBEq]
    refine .flat _ (F117 n) rfl ?_
    simp only [bR, Nat.reduceEqDiff, reduceIte, Int.reduceBNe, Int.reduceBEq]
    refine .done (hK _ ?_); clear hK K; simp only [thenQ, blockQ]
    refine AW.ret ?_
    simp only [blockQ, thenQ, bR, Nat.reduceEqDiff, reduceIte, Int.reduceBNe, Int.reduceBEq]
    simp at hz
    have e : (0 ≤ n) ↔ (1 ≤ n) := by omega
    simp [inR, e]
  · simp only [bR, Nat.reduceEqDiff, reduceIte, Int.reduceBNe, Int.reduceBEq]
    refine .done (hK _ ?_); clear hK K; simp only [thenQ, blockQ]
    refine AW.ret ?_
    simp only [blockQ, thenQ, bR, Nat.reduceEqDiff, reduceIte, Int.reduceBNe, Int.reduceBEq]
    simp at hz
    simp [inR, hz]

def idxI (p : Int → Bool) (l : List Int) : Int := match l.findIdx? p with
  | some i => i
  | none => -1

theorem findIdx?_none_take {α : Type} {p : α → Bool} {l : List α} (h : ∀ x ∈ l, p x = false) : l.findIdx? p = none := by
  rw [List.findIdx?_eq_none_iff]; exact h
theorem findIdx?_some_at {α : Type} {p : α → Bool} {l : List α} {i : Nat} (hi : i < l.length) (h : ∀ x ∈ l.take i, p x = false) (hp : p l[i] = true) : l.findIdx? p = some i := by
  rw [List.findIdx?_eq_some_iff_getElem]
  refine ⟨hi, hp, fun j hj => ?_⟩
  have : l[j] ∈ l.take i := by
    rw [List.mem_take_iff_getElem]
    exact ⟨j, by omega, rfl⟩
  simp [h _ this]

theorem F109 (l : List Int) (f : FuncId) (caps : List AV) (hcaps : AV.dones caps = true) (p : Int → Bool) (hf : ∀ x ∈ l, Ctr Try.prog f (enc x :: caps) (enc (p x))) : Ctr Try.prog 109 [enc l, .func f caps] (enc (idxI p l)) := by
  refine Ctr.mk' Try.func109 ca109 cc109 cr109 (Nat.le_of_ble_eq_true rfl) (fun hwf W0 D0 E1 => ?_)
  simp only [c109, r109, idx, Nat.zero_add, Nat.reduceAdd]
  have hlen : l.length ≤ maxLen := ((wf_list l).1 hwf.1).1
  simp only [maxLen] at hlen
  have hcl : AV.closeds caps = true := dones_closed caps hcaps
  have hfc : ∀ bx A, fins bx A caps = some caps := fun bx A => fins_dones bx A caps hcaps
  have hon : ∀ q, AV.onlys q caps = true := fun q => onlys_closed q caps hcl
  refine AW.seq (AW.reg cd109_0 fun K hK => ?_)
  simp only [g109_0, bR, Nat.reduceEqDiff, reduceIte, Int.reduceBNe, Int.reduceBEq]
  refine .done (hK _ ?_); clear hK K; simp only [thenQ, blockQ]
  refine AW.seq ?_
  refine AW.seq (AW.reg cd109_1 fun K hK => ?_)
  simp only [g109_1, useR, bR, Nat.reduceEqDiff, reduceIte, Int.reduceBNe, Int.reduceBEq]
  refine .done (hK _ ?_); clear hK K; simp only [thenQ, blockQ]
  refine AW.block (AW.loop (fun i : Nat => mkA [(0, enc l), (1, .func f caps), (7, .int .i64 l.length), (8, .int .i64 i)] []) (fun i => i ≤ l.length ∧ ∀ x ∈ l.take i, p x = false) (fun i => l.length - i) 0 ⟨Nat.zero_le _, by simp⟩ ?_ (fun i hi => ?_))
  · refine Sub.of_lists ?_ ?_ ?_ ?_ <;> simp [subT, subO, onlyT, onlyO, isIn, look_cons, lookO_cons, lookO_nil, AV.only, AV.onlys, AO.only, onlys_map, onlys_append, e_only, e_int, e_bool, hon]
  · refine AW.seq (AW.reg cd109_2 fun K hK => ?_)
    simp only [g109_2, bR, Nat.reduceEqDiff, reduceIte, Int.reduceBNe, Int.reduceBEq]
    refine .done (hK _ ?_); clear hK K; simp only [thenQ, blockQ]
    refine AW.seq ?_
    refine AW.ite ?_
    simp only [condQ, bR, Nat.reduceEqDiff, reduceIte, Int.reduceBNe, Int.reduceBEq]
    refine ⟨fun h => ?_, fun h => ?_⟩
    · have hlt : i < l.length := by simpa using h
      refine AW.skip ?_; simp only [thenQ, blockQ, reduceIte, Nat.reduceEqDiff]
      refine AW.seq (AW.block ?_)
      refine AW.seq (AW.reg cd109_3 fun K hK => ?_)
      simp only [g109_3, bR, Nat.reduceEqDiff, reduceIte, Int.reduceBNe, Int.reduceBEq]
      refine .done (hK _ ?_); clear hK K; simp only [thenQ, blockQ]
      refine AW.seq (AW.reg cd109_4 fun K hK => ?_)
      simp only [g109_4, bR, Nat.reduceEqDiff, reduceIte, Int.reduceBNe, Int.reduceBEq]
      simp only [isE_nat 1 hlt rfl, okR, List.cons_append, hfc, bR, Nat.reduceEqDiff, reduceIte, Int.reduceBNe, Int.reduceBEq]
      refine .flat _ (hf _ (List.getElem_mem hlt)) rfl ?_
      simp only [bR, Nat.reduceEqDiff, reduceIte, Int.reduceBNe, Int.reduceBEq]
      refine .done (hK _ ?_); clear hK K; simp only [thenQ, blockQ]
      refine AW.ite ?_
      simp only [condQ, bR, Nat.reduceEqDiff, reduceIte, Int.reduceBNe, Int.reduceBEq]
      refine ⟨fun h => ?_, fun h => ?_⟩
      · refine AW.seq (AW.reg cd109_5 fun K hK => ?_)
        simp only [g109_5, bR, Nat.reduceEqDiff, reduceIte, Int.reduceBNe, Int.reduceBEq]
        refine .done (hK _ ?_); clear hK K; simp only [thenQ, blockQ]
        refine AW.ret ?_
        simp only [blockQ, thenQ, bR, Nat.reduceEqDiff, reduceIte, Int.reduceBNe, Int.reduceBEq]
        simp [idxI, findIdx?_some_at hlt hi.2 h]
      · refine AW.skip ?_; simp only [thenQ, blockQ, reduceIte, Nat.reduceEqDiff]
        refine AW.reg cd109_6 fun K hK => ?_
        simp only [g109_6, bR, Nat.reduceEqDiff, reduceIte, Int.reduceBNe, Int.reduceBEq]
        refine .done (hK _ ?_); clear hK K; simp only [thenQ, blockQ]
        refine ⟨i + 1, ⟨by omega, fun x hm => ?_⟩, by omega, ?_⟩
        · rw [List.take_succ_eq_append_getElem hlt] at hm
          rcases List.mem_append.1 hm with hm | hm
          · exact hi.2 x hm
          · simp at hm; rw [hm]; exact h
        · rw [wrap_id _ (by omega) (by omega)]
          refine Sub.of_lists ?_ ?_ ?_ ?_ <;> simp [subT, subO, onlyT, onlyO, isIn, look_cons, lookO_cons, lookO_nil, AV.only, AV.onlys, AO.only, onlys_map, onlys_append, e_only, e_int, e_bool, hon]
    · have hge : i = l.length := by simp at h; omega
      refine AW.exit ?_; simp only [thenQ, blockQ, reduceIte, Nat.reduceEqDiff]
      refine AW.seq (AW.reg cd109_7 fun K hK => ?_)
      simp only [g109_7, bR, Nat.reduceEqDiff, reduceIte, Int.reduceBNe, Int.reduceBEq]
      refine .done (hK _ ?_); clear hK K; simp only [thenQ, blockQ]
      refine AW.ret ?_
      simp only [blockQ, thenQ, bR, Nat.reduceEqDiff, reduceIte, Int.reduceBNe, Int.reduceBEq]
      simp [hge] at hi
      simp [idxI, findIdx?_none_take hi]

theorem idxI_any (p : Int → Bool) (l : List Int) : decide (0 ≤ idxI p l) = l.any p := by
  unfold idxI
  cases h : l.findIdx? p with
  | none =>
    rw [List.findIdx?_eq_none_iff] at h
    have : l.any p = false := by rw [List.any_eq_false]; intro x hx; simp [h x hx]
    simp [this]
  | some i =>
    rw [List.findIdx?_eq_some_iff_getElem] at h
    obtain ⟨h1, h2, _⟩ := h
    have : l.any p = true := by rw [List.any_eq_true]; exact ⟨_, List.getElem_mem h1, h2⟩
    rw [this]
    exact decide_eq_true (Int.natCast_nonneg i)

theorem F75 (l : List Int) (f : FuncId) (caps : List AV) (hcaps : AV.dones caps = true) (p : Int → Bool) (hf : ∀ x ∈ l, Ctr Try.prog f (enc x :: caps) (enc (p x))) : Ctr Try.prog 75 [enc l, .func f caps] (enc (l.any p)) := by
  refine Ctr.mk' Try.func75 ca75 cc75 cr75 (Nat.le_of_ble_eq_true rfl) (fun hwf W0 D0 E1 => ?_)
  simp only [c75, r75, idx, Nat.zero_add, Nat.reduceAdd]
  have hcl : AV.closeds caps = true := dones_closed caps hcaps
  have hfc : ∀ bx A, fins bx A caps = some caps := fun bx A => fins_dones bx A caps hcaps
  refine AW.seq (AW.reg cd75_0 fun K hK => ?_)
  simp only [g75_0, bR, Nat.reduceEqDiff, reduceIte, Int.reduceBNe, Int.reduceBEq]
  refine .done (hK _ ?_); clear hK K; simp only [thenQ, blockQ]
  refine AW.seq (AW.reg cd75_1 fun K hK => ?_)
  simp only [g75_1, bR, Nat.reduceEqDiff, reduceIte, Int.reduceBNe, Int.reduceBEq]
  simp only [e_fin, hfc, bR, Nat.reduceEqDiff, reduceIte, Int.reduceBNe, Int.reduceBEq]
  refine .flat _ (F109 l f caps hcaps p hf) rfl ?_
  simp only [bR, Nat.reduceEqDiff, reduceIte, Int.reduceBNe, Int.reduceBEq]
  refine .done (hK _ ?_); clear hK K; simp only [thenQ, blockQ]
  refine AW.ret ?_
  simp only [blockQ, thenQ, bR, Nat.reduceEqDiff, reduceIte, Int.reduceBNe, Int.reduceBEq]
  rw [idxI_any]

theorem finV_enc {α : Type} [Enc α] {n sz : Nat} (x : Arr n α) (hs : Enc.sz α = sz) : finV sz 0 n (some (x.l.map enc)) = some (enc x.l) := by
  have h : ((x.l.map (enc (α := α))).drop 0).take n = x.l.map enc := by
    rw [List.drop_zero, List.take_of_length_le]; simp [x.h]
  simp only [finV, h]
  rw [if_pos (closeds_map x.l), e_list, hs]
theorem vaF_enc {α : Type} [Enc α] {n sz : Nat} (x : Arr n α) (hs : Enc.sz α = sz) (h1 : n ≤ maxLen) (h0 : n ≠ 0) (y : AV) : vaF n sz (x.l.map enc) y = some y := by
  simp only [vaF]; rw [if_pos ⟨evenly_map n sz x.l x.h hs, h1, h0⟩]

theorem all_g (p : Int → Bool) (x : Arr 6 Int) : x.l.any (fun v => !p v) = !(List.range 6).all (fun i => p (x.g i)) := by
  have h : (List.range 6).all (fun i => p (x.g i)) = x.l.all p := by
    rw [Bool.eq_iff_iff]
    simp only [List.all_eq_true, List.mem_range]
    constructor
    · intro h v hv
      obtain ⟨i, hi, rfl⟩ := List.getElem_of_mem hv
      have := h i (by rw [x.h] at hi; exact hi)
      rwa [← x.g_eq (by rw [x.h] at hi; exact hi)] at this
    · intro h i hi
      rw [← x.g_eq hi]
      exact h _ (List.getElem_mem _)
  rw [h, List.not_all_eq_any_not]

theorem F93 (m : Arr 6 Int) : Ctr Try.prog 93 [enc m] (enc (okMark m)) := by
  refine Ctr.mk' Try.func93 ca93 cc93 cr93 (Nat.le_of_ble_eq_true rfl) (fun hwf W0 D0 E1 => ?_)
  simp only [c93, r93, idx, Nat.zero_add, Nat.reduceAdd]
  refine AW.seq (AW.reg cd93_0 fun K hK => ?_)
  simp only [g93_0, bR, Nat.reduceEqDiff, reduceIte, Int.reduceBNe, Int.reduceBEq]
  refine .done (hK _ ?_); clear hK K; simp only [thenQ, blockQ]
  refine AW.seq (AW.reg cd93_1 fun K hK => ?_)
  simp only [g93_1, bR, Nat.reduceEqDiff, reduceIte, Int.reduceBNe, Int.reduceBEq]
  simp only [useR, vaF_enc (sz := 1) m rfl (Nat.le_of_ble_eq_true rfl) (Nat.succ_ne_zero 5), finV_enc (sz := 1) m rfl, bR, Nat.reduceEqDiff, reduceIte, Int.reduceBNe, Int.reduceBEq]
  refine .flat _ (F75 m.l 116 [] rfl (fun n => !inR 0 4 n) (fun x _ => F116 x)) rfl ?_
  simp only [bR, Nat.reduceEqDiff, reduceIte, Int.reduceBNe, Int.reduceBEq]
  refine .done (hK _ ?_); clear hK K; simp only [thenQ, blockQ]
  refine AW.ret ?_
  simp only [blockQ, thenQ, bR, Nat.reduceEqDiff, reduceIte, Int.reduceBNe, Int.reduceBEq]
  rw [all_g (inR 0 4)]; simp [okMark]

theorem F96 (m : Arr 6 Int) : Ctr Try.prog 96 [enc m] (enc (okReading m)) := by
  refine Ctr.mk' Try.func96 ca96 cc96 cr96 (Nat.le_of_ble_eq_true rfl) (fun hwf W0 D0 E1 => ?_)
  simp only [c96, r96, idx, Nat.zero_add, Nat.reduceAdd]
  refine AW.seq (AW.reg cd96_0 fun K hK => ?_)
  simp only [g96_0, bR, Nat.reduceEqDiff, reduceIte, Int.reduceBNe, Int.reduceBEq]
  refine .done (hK _ ?_); clear hK K; simp only [thenQ, blockQ]
  refine AW.seq (AW.reg cd96_1 fun K hK => ?_)
  simp only [g96_1, bR, Nat.reduceEqDiff, reduceIte, Int.reduceBNe, Int.reduceBEq]
  simp only [useR, vaF_enc (sz := 1) m rfl (Nat.le_of_ble_eq_true rfl) (Nat.succ_ne_zero 5), finV_enc (sz := 1) m rfl, bR, Nat.reduceEqDiff, reduceIte, Int.reduceBNe, Int.reduceBEq]
  refine .flat _ (F75 m.l 118 [] rfl (fun n => !inR 1 31 n) (fun x _ => F118 x)) rfl ?_
  simp only [bR, Nat.reduceEqDiff, reduceIte, Int.reduceBNe, Int.reduceBEq]
  refine .done (hK _ ?_); clear hK K; simp only [thenQ, blockQ]
  refine AW.ret ?_
  simp only [blockQ, thenQ, bR, Nat.reduceEqDiff, reduceIte, Int.reduceBNe, Int.reduceBEq]
  rw [all_g (inR 1 31)]; simp [okReading]

theorem F97 (n : Int) : Ctr Try.prog 97 [enc n] (enc (inR 1 99 n)) := by
  refine Ctr.mk' Try.func97 ca97 cc97 cr97 (Nat.le_of_ble_eq_true rfl) (fun hwf W0 D0 E1 => ?_)
  simp only [c97, r97, idx, Nat.zero_add, Nat.reduceAdd]
  refine AW.seq (AW.reg cd97_0 fun K hK => ?_)
  simp only [g97_0, bR, Nat.reduceEqDiff, reduceIte, Int.reduceBNe, Int.reduceBEq]
  refine .done (hK _ ?_); clear hK K; simp only [thenQ, blockQ]
  refine AW.seq (AW.reg cd97_1 fun K hK => ?_)
  simp only [g97_1, bR, Nat.reduceEqDiff, reduceIte, Int.reduceBNe, Int.reduceBEq]
  refine .flat _ (F89 n 1 99) rfl ?_
  simp only [bR, Nat.reduceEqDiff, reduceIte, Int.reduceBNe, Int.reduceBEq]
  refine .done (hK _ ?_); clear hK K; simp only [thenQ, blockQ]
  refine AW.ret ?_
  simp only [blockQ, thenQ, bR, Nat.reduceEqDiff, reduceIte, Int.reduceBNe, Int.reduceBEq]

theorem F41 (m : Arr 6 Int) : Ctr Try.prog 41 [enc m] (enc (if okMark m then (0 : Int) else 10)) := by
  refine Ctr.mk' Try.func41 ca41 cc41 cr41 (Nat.le_of_ble_eq_true rfl) (fun hwf W0 D0 E1 => ?_)
  simp only [c41, r41, idx, Nat.zero_add, Nat.reduceAdd]
  refine AW.seq (AW.reg cd41_0 fun K hK => ?_)
  simp only [g41_0, bR, Nat.reduceEqDiff, reduceIte, Int.reduceBNe, Int.reduceBEq]
  refine .done (hK _ ?_); clear hK K; simp only [thenQ, blockQ]
  refine AW.seq (AW.seq ?_)
  refine AW.reg cd41_1 fun K hK => ?_
  simp only [g41_1, bR, Nat.reduceEqDiff, reduceIte, Int.reduceBNe, Int.reduceBEq]
  simp only [typR, useR, okR, e_fin, bR, Nat.reduceEqDiff, reduceIte, Int.reduceBNe, Int.reduceBEq]
  refine .flat _ (F93 m) rfl ?_
  generalize hm : okMark m = b
  cases b
  · simp only [bR, Nat.reduceEqDiff, reduceIte, Int.reduceBNe, Int.reduceBEq]
    refine .done (hK _ ?_); clear hK K; simp only [thenQ, blockQ]
    refine AW.ite ?_
    simp only [condQ, bR, Nat.reduceEqDiff, reduceIte, Int.reduceBNe, Int.reduceBEq]
    refine ⟨fun h => ?_, fun h => ?_⟩
    · refine AW.seq (AW.reg cd41_2 fun K hK => ?_)
      simp only [g41_2, bR, Nat.reduceEqDiff, reduceIte, Int.reduceBNe, Int.reduceBEq]
      refine .done (hK _ ?_); clear hK K; simp only [thenQ, blockQ]
      refine AW.ret ?_
      simp only [blockQ, thenQ, bR, Nat.reduceEqDiff, reduceIte, Int.reduceBNe, Int.reduceBEq]
      simp [hm]
    · cases h
  · simp only [bR, Nat.reduceEqDiff, reduceIte, Int.reduceBNe, Int.reduceBEq]
    refine .done (hK _ ?_); clear hK K; simp only [thenQ, blockQ]
    refine AW.ite ?_
    simp only [condQ, bR, Nat.reduceEqDiff, reduceIte, Int.reduceBNe, Int.reduceBEq]
    refine ⟨fun h => ?_, fun h => ?_⟩
    · cases h
    · refine AW.skip ?_; simp only [thenQ, blockQ, reduceIte, Nat.reduceEqDiff]
      refine AW.seq (AW.reg cd41_3 fun K hK => ?_)
      simp only [g41_3, bR, Nat.reduceEqDiff, reduceIte, Int.reduceBNe, Int.reduceBEq]
      refine .done (hK _ ?_); clear hK K; simp only [thenQ, blockQ]
      refine AW.ret ?_
      simp only [blockQ, thenQ, bR, Nat.reduceEqDiff, reduceIte, Int.reduceBNe, Int.reduceBEq]
      simp [hm]

theorem F45 (m : Arr 6 Int) : Ctr Try.prog 45 [enc m] (enc (if okReading m then (0 : Int) else 12)) := by
  refine Ctr.mk' Try.func45 ca45 cc45 cr45 (Nat.le_of_ble_eq_true rfl) (fun hwf W0 D0 E1 => ?_)
  simp only [c45, r45, idx, Nat.zero_add, Nat.reduceAdd]
  refine AW.seq (AW.reg cd45_0 fun K hK => ?_)
  simp only [g45_0, bR, Nat.reduceEqDiff, reduceIte, Int.reduceBNe, Int.reduceBEq]
  refine .done (hK _ ?_); clear hK K; simp only [thenQ, blockQ]
  refine AW.seq (AW.seq ?_)
  refine AW.reg cd45_1 fun K hK => ?_
  simp only [g45_1, bR, Nat.reduceEqDiff, reduceIte, Int.reduceBNe, Int.reduceBEq]
  simp only [typR, useR, okR, e_fin, bR, Nat.reduceEqDiff, reduceIte, Int.reduceBNe, Int.reduceBEq]
  refine .flat _ (F96 m) rfl ?_
  generalize hm : okReading m = b
  cases b
  · simp only [bR, Nat.reduceEqDiff, reduceIte, Int.reduceBNe, Int.reduceBEq]
    refine .done (hK _ ?_); clear hK K; simp only [thenQ, blockQ]
    refine AW.ite ?_
    simp only [condQ, bR, Nat.reduceEqDiff, reduceIte, Int.reduceBNe, Int.reduceBEq]
    refine ⟨fun h => ?_, fun h => ?_⟩
    · refine AW.seq (AW.reg cd45_2 fun K hK => ?_)
      simp only [g45_2, bR, Nat.reduceEqDiff, reduceIte, Int.reduceBNe, Int.reduceBEq]
      refine .done (hK _ ?_); clear hK K; simp only [thenQ, blockQ]
      refine AW.ret ?_
      simp only [blockQ, thenQ, bR, Nat.reduceEqDiff, reduceIte, Int.reduceBNe, Int.reduceBEq]
      simp [hm]
    · cases h
  · simp only [bR, Nat.reduceEqDiff, reduceIte, Int.reduceBNe, Int.reduceBEq]
    refine .done (hK _ ?_); clear hK K; simp only [thenQ, blockQ]
    refine AW.ite ?_
    simp only [condQ, bR, Nat.reduceEqDiff, reduceIte, Int.reduceBNe, Int.reduceBEq]
    refine ⟨fun h => ?_, fun h => ?_⟩
    · cases h
    · refine AW.skip ?_; simp only [thenQ, blockQ, reduceIte, Nat.reduceEqDiff]
      refine AW.seq (AW.reg cd45_3 fun K hK => ?_)
      simp only [g45_3, bR, Nat.reduceEqDiff, reduceIte, Int.reduceBNe, Int.reduceBEq]
      refine .done (hK _ ?_); clear hK K; simp only [thenQ, blockQ]
      refine AW.ret ?_
      simp only [blockQ, thenQ, bR, Nat.reduceEqDiff, reduceIte, Int.reduceBNe, Int.reduceBEq]
      simp [hm]

end Go.Proofs.Ytkjkbpgdpnapfaa

/-
  FUNCTIONS OF THE PACKAGE mark BY CONTRACT: has, isWear, CheckWear, differ.
-/
namespace Go.Proofs.Ytkjkbpgdpnapfaa
open Go Go.Abs
open Go.Abs.Enc (enc)

def hasB (s : Int) (k : Nat) : Bool := band (s.fdiv (2 ^ min k IntKind.i64.bits)) 1 == 1

theorem F110 (s : Int) (k : Nat) : Ctr Try.prog 110 [enc s, enc (k : Int)] (enc (hasB s k)) := by
  refine Ctr.mk' Try.func110 ca110 cc110 cr110 (Nat.le_of_ble_eq_true rfl) (fun hwf W0 D0 E1 => ?_)
  simp only [c110, r110, idx, Nat.zero_add, Nat.reduceAdd]
  refine AW.seq (AW.reg cd110_0 fun K hK => ?_)
  simp only [g110_0, bR, Nat.reduceEqDiff, reduceIte, Int.reduceBNe, Int.reduceBEq]
  refine .done (hK _ ?_); clear hK K; simp only [thenQ, blockQ]
  refine AW.seq (AW.reg cd110_1 fun K hK => ?_)
  simp only [g110_1, bR, Nat.reduceEqDiff, reduceIte, Int.reduceBNe, Int.reduceBEq]
  refine .done (hK _ ?_); clear hK K; simp only [thenQ, blockQ]
  refine AW.ret ?_
  simp only [blockQ, thenQ, bR, Nat.reduceEqDiff, reduceIte, Int.reduceBNe, Int.reduceBEq]
  rfl

theorem has_bit (s : Int) (h0 : 0 ≤ s) (h1 : s ≤ 31) (k : Nat) (hk : k < 5) : hasB s k = bit s k := by
  have key : ∀ s : Fin 32, ∀ k : Fin 5, hasB (s.1 : Int) k.1 = bit (s.1 : Int) k.1 := by decide +kernel
  have := key ⟨s.toNat, by omega⟩ ⟨k, hk⟩
  simpa [Int.toNat_of_nonneg h0] using this

theorem F95 (m : Arr 5 Int) : Ctr Try.prog 95 [enc m] (enc (okWear m)) := by
  refine Ctr.mk' Try.func95 ca95 cc95 cr95 (Nat.le_of_ble_eq_true rfl) (fun hwf W0 D0 E1 => ?_)
  simp only [c95, r95, idx, Nat.zero_add, Nat.reduceAdd]
  refine AW.seq (AW.reg cd95_0 fun K hK => ?_)
  simp only [g95_0, bR, Nat.reduceEqDiff, reduceIte, Int.reduceBNe, Int.reduceBEq]
  refine .done (hK _ ?_); clear hK K; simp only [thenQ, blockQ]
  refine AW.seq ?_
  refine AW.seq (AW.reg cd95_1 fun K hK => ?_)
  simp only [g95_1, typR, useR, okR, bR, Nat.reduceEqDiff, reduceIte, Int.reduceBNe, Int.reduceBEq]
  refine .done (hK _ ?_); clear hK K; simp only [thenQ, blockQ]
  refine AW.block (AW.loop (fun i : Nat => mkA [(2, .bool false), (6, enc m), (7, .int .i64 i)] []) (fun j => j ≤ 5 ∧ ∀ i, i < j → (inR 0 31 (m.g i) && bit (m.g i) i) = true) (fun i => 5 - i) 0 ⟨by omega, fun k h => by omega⟩ ?_ (fun i hi => ?_))
  · refine Sub.of_lists ?_ ?_ ?_ ?_ <;> simp [subT, subO, onlyT, onlyO, isIn, look_cons, lookO_cons, lookO_nil, AV.only, AV.onlys, AO.only, onlys_map, onlys_append, e_only, e_int, e_bool]
  · refine AW.seq (AW.reg cd95_2 fun K hK => ?_)
    simp only [g95_2, bR, Nat.reduceEqDiff, reduceIte, Int.reduceBNe, Int.reduceBEq]
    refine .done (hK _ ?_); clear hK K; simp only [thenQ, blockQ]
    refine AW.seq ?_
    refine AW.ite ?_
    simp only [condQ, bR, Nat.reduceEqDiff, reduceIte, Int.reduceBNe, Int.reduceBEq]
    refine ⟨fun h => ?_, fun h => ?_⟩
    · have hlt : i < 5 := by simp at h; omega
      refine AW.skip ?_; simp only [thenQ, blockQ, reduceIte, Nat.reduceEqDiff]
      refine AW.seq (AW.block ?_)
      refine AW.seq (AW.reg cd95_3 fun K hK => ?_)
      simp only [g95_3, bR, Nat.reduceEqDiff, reduceIte, Int.reduceBNe, Int.reduceBEq]
      simp only [ixI, ixE, useR, inB_nat 1 m hlt rfl, get_g m hlt, okR, bR, Nat.reduceEqDiff, reduceIte, Int.reduceBNe, Int.reduceBEq]
      refine .done (hK _ ?_); clear hK K; simp only [thenQ, blockQ]
      refine AW.seq (AW.reg cd95_4 fun K hK => ?_)
      simp only [g95_4, bR, Nat.reduceEqDiff, reduceIte, Int.reduceBNe, Int.reduceBEq]
      refine .done (hK _ ?_); clear hK K; simp only [thenQ, blockQ]
      refine AW.seq (AW.reg cd95_5 fun K hK => ?_)
      simp only [g95_5, bR, Nat.reduceEqDiff, reduceIte, Int.reduceBNe, Int.reduceBEq]
      refine .flat _ (F117 _) rfl ?_
      generalize hb : inR 0 31 (m.g i) = b
      cases b
      · simp only [bR, Nat.reduceEqDiff, reduceIte, Int.reduceBNe, Int.reduceBEq]
        refine .done (hK _ ?_); clear hK K; simp only [thenQ, blockQ]
        refine AW.ite ?_
        simp only [condQ, bR, Nat.reduceEqDiff, reduceIte, Int.reduceBNe, Int.reduceBEq]
        refine ⟨fun h => ?_, fun h => ?_⟩
        · refine AW.seq (AW.reg cd95_6 fun K hK => ?_)
          simp only [g95_6, bR, Nat.reduceEqDiff, reduceIte, Int.reduceBNe, Int.reduceBEq]
          refine .done (hK _ ?_); clear hK K; simp only [thenQ, blockQ]
          refine AW.ret ?_
          simp only [blockQ, thenQ, bR, Nat.reduceEqDiff, reduceIte, Int.reduceBNe, Int.reduceBEq]
          rw [okWear, all_false i hlt]
          simp [hb]
        · cases h
      · have hr : 0 ≤ m.g i ∧ m.g i ≤ 31 := by simpa [inR] using hb
        simp only [bR, Nat.reduceEqDiff, reduceIte, Int.reduceBNe, Int.reduceBEq]
        refine .flat _ (F110 (m.g i) i) rfl ?_
        rw [has_bit _ hr.1 hr.2 i hlt]
        simp only [bR, Nat.reduceEqDiff, reduceIte, Int.reduceBNe, Int.reduceBEq]
        refine .done (hK _ ?_); clear hK K; simp only [thenQ, blockQ]
        refine AW.ite ?_
        simp only [condQ, bR, Nat.reduceEqDiff, reduceIte, Int.reduceBNe, Int.reduceBEq]
        refine ⟨fun h => ?_, fun h => ?_⟩
        · refine AW.seq (AW.reg cd95_6 fun K hK => ?_)
          simp only [g95_6, bR, Nat.reduceEqDiff, reduceIte, Int.reduceBNe, Int.reduceBEq]
          refine .done (hK _ ?_); clear hK K; simp only [thenQ, blockQ]
          refine AW.ret ?_
          simp only [blockQ, thenQ, bR, Nat.reduceEqDiff, reduceIte, Int.reduceBNe, Int.reduceBEq]
          rw [okWear, all_false i hlt]
          simp at h
          simp [h]
        · refine AW.skip ?_; simp only [thenQ, blockQ, reduceIte, Nat.reduceEqDiff]
          refine AW.reg cd95_7 fun K hK => ?_
          simp only [g95_7, bR, Nat.reduceEqDiff, reduceIte, Int.reduceBNe, Int.reduceBEq]
          refine .done (hK _ ?_); clear hK K; simp only [thenQ, blockQ]
          refine ⟨i + 1, ⟨by omega, fun k hk => ?_⟩, by omega, ?_⟩
          · by_cases hk' : k = i
            · subst hk'
              simp at h
              simp [hb, h]
            · exact hi.2 k (by omega)
          · rw [wrap_id _ (by omega) (by omega)]
            refine Sub.of_lists ?_ ?_ ?_ ?_ <;> simp [subT, subO, onlyT, onlyO, isIn, look_cons, lookO_cons, lookO_nil, AV.only, AV.onlys, AO.only, onlys_map, onlys_append, e_only, e_int, e_bool]
    · have hge : i = 5 := by simp at h; omega
      subst hge
      refine AW.exit ?_; simp only [thenQ, blockQ, reduceIte, Nat.reduceEqDiff]
      refine AW.seq (AW.reg cd95_8 fun K hK => ?_)
      simp only [g95_8, bR, Nat.reduceEqDiff, reduceIte, Int.reduceBNe, Int.reduceBEq]
      refine .done (hK _ ?_); clear hK K; simp only [thenQ, blockQ]
      refine AW.ret ?_
      simp only [blockQ, thenQ, bR, Nat.reduceEqDiff, reduceIte, Int.reduceBNe, Int.reduceBEq]
      rw [okWear, all_true hi.2]

theorem F43 (m : Arr 5 Int) : Ctr Try.prog 43 [enc m] (enc (if okWear m then (0 : Int) else 11)) := by
  refine Ctr.mk' Try.func43 ca43 cc43 cr43 (Nat.le_of_ble_eq_true rfl) (fun hwf W0 D0 E1 => ?_)
  simp only [c43, r43, idx, Nat.zero_add, Nat.reduceAdd]
  refine AW.seq (AW.reg cd43_0 fun K hK => ?_)
  simp only [g43_0, bR, Nat.reduceEqDiff, reduceIte, Int.reduceBNe, Int.reduceBEq]
  refine .done (hK _ ?_); clear hK K; simp only [thenQ, blockQ]
  refine AW.seq (AW.seq ?_)
  refine AW.reg cd43_1 fun K hK => ?_
  simp only [g43_1, bR, Nat.reduceEqDiff, reduceIte, Int.reduceBNe, Int.reduceBEq]
  simp only [typR, useR, okR, e_fin, bR, Nat.reduceEqDiff, reduceIte, Int.reduceBNe, Int.reduceBEq]
  refine .flat _ (F95 m) rfl ?_
  generalize hm : okWear m = b
  cases b
  · simp only [bR, Nat.reduceEqDiff, reduceIte, Int.reduceBNe, Int.reduceBEq]
    refine .done (hK _ ?_); clear hK K; simp only [thenQ, blockQ]
    refine AW.ite ?_
    simp only [condQ, bR, Nat.reduceEqDiff, reduceIte, Int.reduceBNe, Int.reduceBEq]
    refine ⟨fun h => ?_, fun h => ?_⟩
    · refine AW.seq (AW.reg cd43_2 fun K hK => ?_)
      simp only [g43_2, bR, Nat.reduceEqDiff, reduceIte, Int.reduceBNe, Int.reduceBEq]
      refine .done (hK _ ?_); clear hK K; simp only [thenQ, blockQ]
      refine AW.ret ?_
      simp only [blockQ, thenQ, bR, Nat.reduceEqDiff, reduceIte, Int.reduceBNe, Int.reduceBEq]
      simp [hm]
    · cases h
  · simp only [bR, Nat.reduceEqDiff, reduceIte, Int.reduceBNe, Int.reduceBEq]
    refine .done (hK _ ?_); clear hK K; simp only [thenQ, blockQ]
    refine AW.ite ?_
    simp only [condQ, bR, Nat.reduceEqDiff, reduceIte, Int.reduceBNe, Int.reduceBEq]
    refine ⟨fun h => ?_, fun h => ?_⟩
    · cases h
    · refine AW.skip ?_; simp only [thenQ, blockQ, reduceIte, Nat.reduceEqDiff]
      refine AW.seq (AW.reg cd43_3 fun K hK => ?_)
      simp only [g43_3, bR, Nat.reduceEqDiff, reduceIte, Int.reduceBNe, Int.reduceBEq]
      refine .done (hK _ ?_); clear hK K; simp only [thenQ, blockQ]
      refine AW.ret ?_
      simp only [blockQ, thenQ, bR, Nat.reduceEqDiff, reduceIte, Int.reduceBNe, Int.reduceBEq]
      simp [hm]

theorem cnt_not (p q : Nat → Bool) (n : Nat) (h : ∀ i, i < n → p i = !q i) : cnt p n = cnt (fun i => !q i) n := by
  induction n with
  | zero => rfl
  | succ n ih => simp only [cnt, ih fun i hi => h i (by omega), h n (by omega)]

theorem F111 (f : FuncId) (caps : List AV) (hcaps : AV.dones caps = true) (p : Nat → Bool) (hf : ∀ i : Nat, i < 6 → Ctr Try.prog f (enc (i : Int) :: caps) (enc (p i))) : Ctr Try.prog 111 [.func f caps] (enc (cnt (fun i => !p i) 6 : Int)) := by
  refine Ctr.mk' Try.func111 ca111 cc111 cr111 (Nat.le_of_ble_eq_true rfl) (fun hwf W0 D0 E1 => ?_)
  simp only [c111, r111, idx, Nat.zero_add, Nat.reduceAdd]
  have hcl : AV.closeds caps = true := dones_closed caps hcaps
  have hfc : ∀ bx A, fins bx A caps = some caps := fun bx A => fins_dones bx A caps hcaps
  have hon : ∀ q, AV.onlys q caps = true := fun q => onlys_closed q caps hcl
  refine AW.seq (AW.reg cd111_0 fun K hK => ?_)
  simp only [g111_0, bR, Nat.reduceEqDiff, reduceIte, Int.reduceBNe, Int.reduceBEq]
  refine .done (hK _ ?_); clear hK K; simp only [thenQ, blockQ]
  refine AW.seq (AW.reg cd111_1 fun K hK => ?_)
  simp only [g111_1, bR, Nat.reduceEqDiff, reduceIte, Int.reduceBNe, Int.reduceBEq]
  refine .done (hK _ ?_); clear hK K; simp only [thenQ, blockQ]
  refine AW.seq ?_
  refine AW.seq (AW.reg cd111_2 fun K hK => ?_)
  simp only [g111_2, bR, Nat.reduceEqDiff, reduceIte, Int.reduceBNe, Int.reduceBEq]
  refine .done (hK _ ?_); clear hK K; simp only [thenQ, blockQ]
  refine AW.block (AW.loop (fun i : Nat => mkA [(0, .func f caps), (3, .int .i64 (cnt (fun i => !p i) i : Int)), (5, .int .i64 i)] []) (fun i => i ≤ 6 ∧ cnt (fun i => !p i) i ≤ i) (fun i => 6 - i) 0 ⟨by omega, by simp [cnt]⟩ ?_ (fun i hi => ?_))
  · refine Sub.of_lists ?_ ?_ ?_ ?_ <;> simp [subT, subO, onlyT, onlyO, isIn, look_cons, lookO_cons, lookO_nil, AV.only, AV.onlys, AO.only, onlys_map, onlys_append, e_only, e_int, e_bool, hon, cnt]
  · refine AW.seq (AW.reg cd111_3 fun K hK => ?_)
    simp only [g111_3, bR, Nat.reduceEqDiff, reduceIte, Int.reduceBNe, Int.reduceBEq]
    refine .done (hK _ ?_); clear hK K; simp only [thenQ, blockQ]
    refine AW.seq ?_
    refine AW.ite ?_
    simp only [condQ, bR, Nat.reduceEqDiff, reduceIte, Int.reduceBNe, Int.reduceBEq]
    refine ⟨fun h => ?_, fun h => ?_⟩
    · have hlt : i < 6 := by simp at h; omega
      refine AW.skip ?_; simp only [thenQ, blockQ, reduceIte, Nat.reduceEqDiff]
      refine AW.seq (AW.block ?_)
      refine AW.seq (AW.reg cd111_4 fun K hK => ?_)
      simp only [g111_4, bR, Nat.reduceEqDiff, reduceIte, Int.reduceBNe, Int.reduceBEq]
      refine .done (hK _ ?_); clear hK K; simp only [thenQ, blockQ]
      refine AW.seq (AW.reg cd111_5 fun K hK => ?_)
      simp only [g111_5, bR, Nat.reduceEqDiff, reduceIte, Int.reduceBNe, Int.reduceBEq]
      simp only [List.cons_append, hfc, bR, Nat.reduceEqDiff, reduceIte, Int.reduceBNe, Int.reduceBEq]
      refine .flat _ (hf i hlt) rfl ?_
      simp only [bR, Nat.reduceEqDiff, reduceIte, Int.reduceBNe, Int.reduceBEq]
      refine .done (hK _ ?_); clear hK K; simp only [thenQ, blockQ]
      refine AW.ite ?_
      simp only [condQ, bR, Nat.reduceEqDiff, reduceIte, Int.reduceBNe, Int.reduceBEq]
      refine ⟨fun h => ?_, fun h => ?_⟩
      · simp at h
        refine AW.reg cd111_6 fun K hK => ?_
        simp only [g111_6, bR, Nat.reduceEqDiff, reduceIte, Int.reduceBNe, Int.reduceBEq]
        refine .done (hK _ ?_); clear hK K; simp only [thenQ, blockQ]
        refine AW.reg cd111_7 fun K hK => ?_
        simp only [g111_7, bR, Nat.reduceEqDiff, reduceIte, Int.reduceBNe, Int.reduceBEq]
        refine .done (hK _ ?_); clear hK K; simp only [thenQ, blockQ]
        refine ⟨i + 1, ⟨by omega, ?_⟩, by omega, ?_⟩
        · simp only [cnt]; split <;> omega
        · rw [wrap_id _ (by omega) (by omega), wrap_id _ (by omega) (by omega)]
          refine Sub.of_lists ?_ ?_ ?_ ?_ <;> simp [subT, subO, onlyT, onlyO, isIn, look_cons, lookO_cons, lookO_nil, AV.only, AV.onlys, AO.only, onlys_map, onlys_append, e_only, e_int, e_bool, hon, cnt, h]
      · simp at h
        refine AW.skip ?_; simp only [thenQ, blockQ, reduceIte, Nat.reduceEqDiff]
        refine AW.reg cd111_7 fun K hK => ?_
        simp only [g111_7, bR, Nat.reduceEqDiff, reduceIte, Int.reduceBNe, Int.reduceBEq]
        refine .done (hK _ ?_); clear hK K; simp only [thenQ, blockQ]
        refine ⟨i + 1, ⟨by omega, ?_⟩, by omega, ?_⟩
        · simp only [cnt]; split <;> omega
        · rw [wrap_id _ (by omega) (by omega)]
          refine Sub.of_lists ?_ ?_ ?_ ?_ <;> simp [subT, subO, onlyT, onlyO, isIn, look_cons, lookO_cons, lookO_nil, AV.only, AV.onlys, AO.only, onlys_map, onlys_append, e_only, e_int, e_bool, hon, cnt, h]
    · have hge : i = 6 := by simp at h; omega
      subst hge
      refine AW.exit ?_; simp only [thenQ, blockQ, reduceIte, Nat.reduceEqDiff]
      refine AW.seq (AW.reg cd111_8 fun K hK => ?_)
      simp only [g111_8, bR, Nat.reduceEqDiff, reduceIte, Int.reduceBNe, Int.reduceBEq]
      refine .done (hK _ ?_); clear hK K; simp only [thenQ, blockQ]
      refine AW.ret ?_
      simp only [blockQ, thenQ, bR, Nat.reduceEqDiff, reduceIte, Int.reduceBNe, Int.reduceBEq]

end Go.Proofs.Ytkjkbpgdpnapfaa

/-
  FUNCTIONS OF THE PACKAGE mark BY CONTRACT: cost, distance; IndexFunc and ContainsFunc over given marks; isApart.
-/
namespace Go.Proofs.Ytkjkbpgdpnapfaa
open Go Go.Abs
open Go.Abs.Enc (enc)

theorem capR : (∀ f caps, okLO none (some (.func f caps)) = some (.func f caps)) ∧ (∀ x : AV, derefE (mkA [] []) (.ref x) = some x) := ⟨okLO_func, fun _ => rfl⟩

theorem F113 (w : Arr 5 Int) (m r : Arr 6 Int) (hm : okMark m = true) (i : Nat) (hi : i < 6) : Ctr Try.prog 113 (enc (i : Int) :: [.ref (.func 78 []), .ref (enc w), .ref (enc m), .ref (enc r)]) (enc (!costAt w m r i)) := by
  obtain ⟨h0, h5⟩ := okMark_at hm hi
  refine Ctr.mk' Try.func113 ca113 cc113 cr113 (Nat.le_of_ble_eq_true rfl) (fun hwf W0 D0 E1 => ?_)
  simp only [c113, r113, idx, Nat.zero_add, Nat.reduceAdd]
  refine AW.seq (AW.reg cd113_0 fun K hK => ?_)
  simp only [g113_0, bR, Nat.reduceEqDiff, reduceIte, Int.reduceBNe, Int.reduceBEq]
  refine .done (hK _ ?_); clear hK K; simp only [thenQ, blockQ]
  refine AW.seq (AW.reg cd113_1 fun K hK => ?_)
  simp only [g113_1, bR, Nat.reduceEqDiff, reduceIte, Int.reduceBNe, Int.reduceBEq]
  simp only [typR, useR, okR, e_fin, bR, Nat.reduceEqDiff, reduceIte, Int.reduceBNe, Int.reduceBEq]
  refine .flat _ (F77 w m i hi h0 h5) rfl ?_
  simp only [typR, useR, okR, inB_nat 1 r hi rfl, iaR, get_g r hi, List.append_nil, bR, Nat.reduceEqDiff, reduceIte, Int.reduceBNe, Int.reduceBEq]
  refine .flat _ (F78 _ _) rfl ?_
  simp only [bR, Nat.reduceEqDiff, reduceIte, Int.reduceBNe, Int.reduceBEq]
  refine .done (hK _ ?_); clear hK K; simp only [thenQ, blockQ]
  refine AW.ret ?_
  simp only [blockQ, thenQ, bR, Nat.reduceEqDiff, reduceIte, Int.reduceBNe, Int.reduceBEq]
  simp [costAt, bne]

theorem F112 (w : Arr 5 Int) (a b : Arr 6 Int) (ha : okMark a = true) (hb : okMark b = true) (i : Nat) (hi : i < 6) : Ctr Try.prog 112 (enc (i : Int) :: [.ref (.func 78 []), .ref (enc w), .ref (enc a), .ref (enc b)]) (enc (!apartAt w a b i)) := by
  obtain ⟨h0, h5⟩ := okMark_at ha hi
  obtain ⟨k0, k5⟩ := okMark_at hb hi
  refine Ctr.mk' Try.func112 ca112 cc112 cr112 (Nat.le_of_ble_eq_true rfl) (fun hwf W0 D0 E1 => ?_)
  simp only [c112, r112, idx, Nat.zero_add, Nat.reduceAdd]
  refine AW.seq (AW.reg cd112_0 fun K hK => ?_)
  simp only [g112_0, bR, Nat.reduceEqDiff, reduceIte, Int.reduceBNe, Int.reduceBEq]
  refine .done (hK _ ?_); clear hK K; simp only [thenQ, blockQ]
  refine AW.seq (AW.reg cd112_1 fun K hK => ?_)
  simp only [g112_1, bR, Nat.reduceEqDiff, reduceIte, Int.reduceBNe, Int.reduceBEq]
  simp only [typR, useR, okR, e_fin, bR, Nat.reduceEqDiff, reduceIte, Int.reduceBNe, Int.reduceBEq]
  refine .flat _ (F77 w a i hi h0 h5) rfl ?_
  simp only [typR, useR, okR, e_fin, bR, Nat.reduceEqDiff, reduceIte, Int.reduceBNe, Int.reduceBEq]
  refine .flat _ (F77 w b i hi k0 k5) rfl ?_
  simp only [okR, List.append_nil, bR, Nat.reduceEqDiff, reduceIte, Int.reduceBNe, Int.reduceBEq]
  refine .flat _ (F78 _ _) rfl ?_
  simp only [bR, Nat.reduceEqDiff, reduceIte, Int.reduceBNe, Int.reduceBEq]
  refine .done (hK _ ?_); clear hK K; simp only [thenQ, blockQ]
  refine AW.ret ?_
  simp only [blockQ, thenQ, bR, Nat.reduceEqDiff, reduceIte, Int.reduceBNe, Int.reduceBEq]
  simp [apartAt, bne]

theorem stR3_f {A : AState} {n : Nat} {b : AV} {f : FuncId} {caps : List AV} {rest : List G} : stR3 A none n [] b (.func f caps) rest (some .nilf) = aops rest (A.setO n (.box (b.setAt [] (.func f caps)))) := stR3_ok rfl rfl (by simp [AV.sh])

theorem F88 (w : Arr 5 Int) (m r : Arr 6 Int) (hm : okMark m = true) : Ctr Try.prog 88 [enc w, enc m, enc r] (enc (costOf w m r)) := by
  refine Ctr.mk' Try.func88 ca88 cc88 cr88 (Nat.le_of_ble_eq_true rfl) (fun hwf W0 D0 E1 => ?_)
  simp only [c88, r88, idx, Nat.zero_add, Nat.reduceAdd]
  refine AW.seq (AW.reg cd88_0 fun K hK => ?_)
  simp only [g88_0, bR, Nat.reduceEqDiff, reduceIte, Int.reduceBNe, Int.reduceBEq]
  simp only [e_isVal, bR, Nat.reduceEqDiff, reduceIte, Int.reduceBNe, Int.reduceBEq]
  refine .done (hK _ ?_); clear hK K; simp only [thenQ, blockQ]
  refine AW.seq (AW.reg cd88_1 fun K hK => ?_)
  simp only [g88_1, bR, Nat.reduceEqDiff, reduceIte, Int.reduceBNe, Int.reduceBEq]
  simp only [stR3_f, bR, Nat.reduceEqDiff, reduceIte, Int.reduceBNe, Int.reduceBEq]
  refine .done (hK _ ?_); clear hK K; simp only [thenQ, blockQ]
  refine AW.seq (AW.reg cd88_2 fun K hK => ?_)
  simp only [g88_2, bR, Nat.reduceEqDiff, reduceIte, Int.reduceBNe, Int.reduceBEq]
  simp only [List.all_cons, List.all_nil, AV.isVal, Bool.and_self, e_closed, bR, Nat.reduceEqDiff, reduceIte, Int.reduceBNe, Int.reduceBEq]
  refine .flat _ (F111 113 [.ref (.func 78 []), .ref (enc w), .ref (enc m), .ref (enc r)] ?_ (fun i => !costAt w m r i) (fun i hi => F113 w m r hm i hi)) rfl ?_
  · simp only [AV.dones, AV.done, AV.closed, AV.closeds, e_closed, Bool.and_self]
  simp only [bR, Nat.reduceEqDiff, reduceIte, Int.reduceBNe, Int.reduceBEq]
  refine .done (hK _ ?_); clear hK K; simp only [thenQ, blockQ]
  refine AW.ret ?_
  simp only [blockQ, thenQ, bR, Nat.reduceEqDiff, reduceIte, Int.reduceBNe, Int.reduceBEq]
  simp only [costOf, Bool.not_not]

theorem F87 (w : Arr 5 Int) (a b : Arr 6 Int) (ha : okMark a = true) (hb : okMark b = true) : Ctr Try.prog 87 [enc w, enc a, enc b] (enc (cnt (apartAt w a b) 6 : Int)) := by
  refine Ctr.mk' Try.func87 ca87 cc87 cr87 (Nat.le_of_ble_eq_true rfl) (fun hwf W0 D0 E1 => ?_)
  simp only [c87, r87, idx, Nat.zero_add, Nat.reduceAdd]
  refine AW.seq (AW.reg cd87_0 fun K hK => ?_)
  simp only [g87_0, bR, Nat.reduceEqDiff, reduceIte, Int.reduceBNe, Int.reduceBEq]
  simp only [e_isVal, bR, Nat.reduceEqDiff, reduceIte, Int.reduceBNe, Int.reduceBEq]
  refine .done (hK _ ?_); clear hK K; simp only [thenQ, blockQ]
  refine AW.seq (AW.reg cd87_1 fun K hK => ?_)
  simp only [g87_1, bR, Nat.reduceEqDiff, reduceIte, Int.reduceBNe, Int.reduceBEq]
  simp only [stR3_f, bR, Nat.reduceEqDiff, reduceIte, Int.reduceBNe, Int.reduceBEq]
  refine .done (hK _ ?_); clear hK K; simp only [thenQ, blockQ]
  refine AW.seq (AW.reg cd87_2 fun K hK => ?_)
  simp only [g87_2, bR, Nat.reduceEqDiff, reduceIte, Int.reduceBNe, Int.reduceBEq]
  simp only [List.all_cons, List.all_nil, AV.isVal, Bool.and_self, e_closed, bR, Nat.reduceEqDiff, reduceIte, Int.reduceBNe, Int.reduceBEq]
  refine .flat _ (F111 112 [.ref (.func 78 []), .ref (enc w), .ref (enc a), .ref (enc b)] ?_ (fun i => !apartAt w a b i) (fun i hi => F112 w a b ha hb i hi)) rfl ?_
  · simp only [AV.dones, AV.done, AV.closed, AV.closeds, e_closed, Bool.and_self]
  simp only [bR, Nat.reduceEqDiff, reduceIte, Int.reduceBNe, Int.reduceBEq]
  refine .done (hK _ ?_); clear hK K; simp only [thenQ, blockQ]
  refine AW.ret ?_
  simp only [blockQ, thenQ, bR, Nat.reduceEqDiff, reduceIte, Int.reduceBNe, Int.reduceBEq]
  simp only [Bool.not_not]

end Go.Proofs.Ytkjkbpgdpnapfaa

