/-
  THE ABSTRACT LAYER, 19: slices made and appended to; a nil slice taken as one of the frame's own. Over any program.
-/
import Derived.RangeFuncIn
import Derived.ProofKit
import Derived.SizedLaws
import Derived.KernelRfl
import Derived.Test.YtkjkbpgdpnapfaaChecked
import Derived.Test.YtkjkbpgdpnapfaaMgb
set_option linter.unusedSimpArgs false
set_option linter.unusedVariables false
namespace Go.Abs
open Go Go.RowKit
open Enc (enc)
def nilE (neg : Bool) : AV → Option AV
  | .nils _ => some (.bool (!neg))
  | .slice _ es => if es.isEmpty then none else some (.bool neg)
  | .view _ _ _ _ _ => some (.bool neg)
  | _ => none
def lenTE : AV → Option AV
  | .str s => some (.int .i64 s.size)
  | _ => none
open Classical in
noncomputable def slV (n : Nat) (p : List Nat) (sz l0 k esz : Nat) (lo hi mx : Option AV) : Option (List AV) → Option AV
  | some fs => if sz = esz then sliceV n p sz l0 k fs.length lo hi mx else none
  | none => none
noncomputable def slE (A : AState) (esz : Nat) (lo hi mx : Option AV) : AV → Option AV
  | .slice sz es => if sz = esz then sliceOf sz es lo hi mx else none
  | .nils sz => if sz = esz then sliceOf sz [] lo hi mx else none
  | .c0 sz => if sz = esz then sliceOf sz [] lo hi mx else none
  | .view n p sz l0 k => slV n p sz l0 k esz lo hi mx (fldsO (derefP p (A.o n)))
  | _ => none
open Classical in
noncomputable def bsE (esz : Nat) : Option (List AV) → Option AV
  | some es => if (es.all fun e => e.size == esz) = true ∧ AV.closeds es = true then some (.slice esz es) else none
  | none => none
open Classical in
noncomputable def appR3 (A : AState) (d : Option Nat) (e esz bytes n l T sz' : Nat) (es : List AV) (rest : List G) : AV → Res
  | .slice sz ys => if okApp e esz bytes l sz ys T sz' es then aops rest ((A.setO n (.row e esz (es ++ ys))).putO d (.own n (es.length + ys.length))) else .fail
  | _ => .fail
noncomputable def appR2 (A : AState) (d : Option Nat) (e esz bytes n l : Nat) (x : AV) (rest : List G) : Option AO → Res
  | some (.row T sz' es) => appR3 A d e esz bytes n l T sz' es rest x
  | _ => .fail
noncomputable def appR (A : AState) (d : Option Nat) (e esz bytes : Nat) (z x : AV) (rest : List G) : AV → Res
  | .own n l => appR2 A d e esz bytes n l x rest (A.o n)
  | s => appO A d esz bytes z s (srcL A esz s) (srcL A esz x) (aops rest)
section
variable (d : Option Nat) (rest : List G) (A : AState)
noncomputable def nilR (neg : Bool) (x : AV) : Bool → Res
  | true => .any (fun m => m < 2) (fun m => aops rest (A.putO d (.bool (m == 0))))
  | false => bindR (nilE neg x) (kont d rest A)
theorem o_nilS (neg : Bool) (x : AOpd) : opR A d (.nilS neg x) rest = nilR d rest A neg (ev A x) (und (ev A x)) := by
  simp only [opR, gStep, pureOp]
  cases und (ev A x)
  · simp only [Bool.false_eq_true, if_false, nilR, nilE]; cases ev A x <;> rfl
  · rfl
theorem o_lenT (x : AOpd) : opR A d (.lenT x) rest = bindR (lenTE (ev A x)) (kont d rest A) := by
  simp only [opR, gStep, pureOp]; cases ev A x <;> rfl
theorem o_sl (esz : Nat) (x : AOpd) (lo hi mx : Option AOpd) : opR A d (.sl esz x lo hi mx) rest = bindR (slE A esz (lo.map (ev A)) (hi.map (ev A)) (mx.map (ev A)) (ev A x)) (kont d rest A) := by
  simp only [opR, gStep, pureOp]
  cases ev A x <;> try rfl
  rename_i n p sz l0 k
  simp only [slE, deref_eq, derefE]
  cases derefP p (A.o n) with
  | none => rfl
  | some c => cases c <;> simp only [fldsO, AV.flds, slV] <;> (first | rfl | (split <;> rfl))
theorem o_bs (esz : Nat) (ps : List AOpd) : opR A d (.bs esz ps) rest = bindR (bsE esz (fins false A (ps.map (ev A)))) (kont d rest A) := by
  simp only [opR, gStep, pureOp]; cases fins false A (ps.map (ev A)) <;> simp only [bsE] <;> rfl
theorem o_app (e esz bytes : Nat) (z : AV) (s x : AOpd) : opR A d (.app e esz bytes z s x) rest = appR A d e esz bytes z (ev A x) rest (ev A s) := by
  simp only [opR, gStep]
  generalize ev A s = s'
  generalize ev A x = x'
  cases s' <;> simp only [appR]
  rename_i n l
  cases x' <;> simp only <;> generalize A.o n = z <;> (cases z with
    | none => rfl
    | some y => cases y <;> simp only [appR2, appR3])
end
theorem opsR2 :
    (∀ d rest A neg x, opR A d (.nilS neg x) rest = nilR d rest A neg (ev A x) (und (ev A x))) ∧ (∀ d rest A neg x, nilR d rest A neg x false = bindR (nilE neg x) (kont d rest A)) ∧ (∀ z, und (.nils z) = false) ∧ (∀ n p sz lo k, und (.view n p sz lo k) = false) ∧ (∀ d rest A x, opR A d (.lenT x) rest = bindR (lenTE (ev A x)) (kont d rest A)) ∧
    (∀ d rest A esz x lo hi mx, opR A d (.sl esz x lo hi mx) rest = bindR (slE A esz (lo.map (ev A)) (hi.map (ev A)) (mx.map (ev A)) (ev A x)) (kont d rest A)) ∧
    (∀ d rest A esz ps, opR A d (.bs esz ps) rest = bindR (bsE esz (fins false A (ps.map (ev A)))) (kont d rest A)) ∧ (∀ d rest A e esz bytes z s x, opR A d (.app e esz bytes z s x) rest = appR A d e esz bytes z (ev A x) rest (ev A s)) ∧
    (∀ A d e esz bytes z x rest n l, appR A d e esz bytes z x rest (.own n l) = appR2 A d e esz bytes n l x rest (A.o n)) ∧ (∀ A d e esz bytes n l x rest T sz es, appR2 A d e esz bytes n l x rest (some (.row T sz es)) = appR3 A d e esz bytes n l T sz es rest x) ∧
    (∀ neg z, nilE neg (.nils z) = some (.bool (!neg))) :=
  ⟨o_nilS, fun _ _ _ _ _ => rfl, fun _ => rfl, fun _ _ _ _ _ => rfl, o_lenT, o_sl, o_bs, o_app, fun _ _ _ _ _ _ _ _ _ _ => rfl, fun _ _ _ _ _ _ _ _ _ _ _ _ => rfl, fun _ _ => rfl⟩
theorem onlys_append (p : Nat → Bool) (xs ys : List AV) : AV.onlys p (xs ++ ys) = (AV.onlys p xs && AV.onlys p ys) := by
  induction xs with
  | nil => simp [AV.onlys]
  | cons x xs ih => simp [AV.onlys, ih, Bool.and_assoc]
section
variable {α : Type} [Enc α]
theorem appR3_enc {A : AState} {d : Option Nat} (e : Nat) (esz bytes n : Nat) {l : Nat} {es ys : List α} {rest : List G} (hl : l = es.length) (hs : Enc.sz α = esz) (hy : ys ≠ []) (h1 : es.length + ys.length ≤ maxLen) (h2 : (es.length + ys.length) * bytes ≤ 140737488355328) :
    appR3 A d e esz bytes n l e esz (es.map enc) rest (enc ys) = aops rest ((A.setO n (.row e esz ((es ++ ys).map enc))).putO d (.own n (es ++ ys).length)) := by
  simp only [e_list, appR3]
  rw [if_pos ⟨by simpa using hl, hs, rfl, rfl, by simpa using hy, by simpa using h1, by simpa using h2⟩]
  simp
theorem bsE_enc (esz : Nat) {ys : List α} (hs : Enc.sz α = esz) : bsE esz (some (ys.map enc)) = some (enc ys) := by
  have h1 : ((ys.map enc).all fun e : AV => e.size == esz) = true := by
    simp only [List.all_eq_true, List.mem_map]
    rintro x ⟨y, _, rfl⟩
    simp [Enc.size, hs]
  simp only [bsE, e_list]
  rw [if_pos ⟨h1, closeds_map ys⟩, hs]
theorem bsE_one (esz : Nat) (y : α) (hs : Enc.sz α = esz) : bsE esz (some [enc y]) = some (enc [y]) := bsE_enc (ys := [y]) esz hs
theorem finO_enc (sz : Nat) {T k : Nat} {es : List α} (hk : k = es.length) (hs : Enc.sz α = sz) : finO k (some (.row T sz (es.map enc))) = some (enc es) := by
  simp only [finO, List.length_map]
  rw [if_pos ⟨hk, closeds_map es⟩, e_list, hs]
theorem onlys_map (p : Nat → Bool) (l : List α) : AV.onlys p (l.map enc) = true := by
  induction l with
  | nil => rfl
  | cons x l ih => simp only [List.map_cons, AV.onlys, e_only, ih, Bool.and_self]
end
/-- Slices of whole numbers. -/
theorem intsR :
    (∀ n : Int, bsE 1 (some [.int .i64 n]) = some (enc [n])) ∧ (∀ (T : Nat) (es : List Int), finO es.length (some (.row T 1 (es.map enc))) = some (enc es)) :=
  ⟨fun n => bsE_one 1 n rfl, fun _ _ => finO_enc 1 rfl rfl⟩
/-- A nil slice is the frame's own, as long as nothing else is called so. -/
theorem Sub.adopt {A : AState} {d n T sz z : Nat} (hd : A.t d = .nils z) (hn : A.o n = none) (hlt : n < 1000000) : Sub A ((A.setO n (.row T sz [])).put d (.own n 0)) := by
  rintro c a w ⟨D, E, h⟩
  have hE : E n = none := by have := h.obj n; rw [hn] at this; exact this
  have hl : Later w D E w D (fun m => if m = n then some (.rw none 0) else E m) := by
    refine ⟨fun _ _ h => h, fun _ _ _ _ h => h, fun m b sh he => ?_, fun m blk l he => ?_⟩
    · have : m ≠ n := fun e => by rw [e, hE] at he; cases he
      simp only [if_neg this]; exact he
    · have : m ≠ n := fun e => by rw [e, hE] at he; cases he
      exact ⟨blk, l, by simp only [if_neg this]; exact he, Nat.le_refl _, fun _ => rfl⟩
  refine ⟨D, fun m => if m = n then some (.rw none 0) else E m, h.sz, h.defs, fun t => ?_, h.unch, h.dom, h.live, fun m => ?_, fun m m' e e' b h1 h2 h3 h4 => ?_, fun m e hm hfx => ?_, h.nam, h.up, h.yok⟩
  · simp only [AState.put, AState.setO]
    by_cases ht : t = d
    · subst ht
      simp only [if_true]
      have hv := h.tm t
      rw [hd] at hv
      obtain ⟨cs, q1, q2⟩ := hv
      simp only [rc] at q2
      subst q2
      refine ⟨[.slice none 0 0], by simpa [isPack, AV.isAgg] using q1, ?_⟩
      simp only [rc, if_true]
      exact ⟨none, 0, rfl, Nat.le_refl _, ⟨_, _, _, rfl⟩, fun _ => trivial⟩
    · simp only [if_neg ht]
      exact rv.later hl (h.tm t)
  · simp only [AState.put, AState.setO]
    by_cases hm : m = n
    · subst hm
      simp only [if_true, objOk]
      exact ⟨none, by simp, by simp, trivial⟩
    · simp only [if_neg hm]
      exact (h.obj m).later hl (by simp only [if_neg hm]) fun _ _ _ _ => ⟨rfl, fun _ ho => ho⟩
  · by_cases hm : m = n <;> by_cases hm' : m' = n
    · rw [hm, hm']
    · simp only [if_pos hm, Option.some.injEq] at h1; subst h1; simp [Ent.blk] at h3
    · simp only [if_pos hm', Option.some.injEq] at h2; subst h2; simp [Ent.blk] at h4
    · simp only [if_neg hm] at h1; simp only [if_neg hm'] at h2; exact h.sep m m' e e' b h1 h2 h3 h4
  · have hmn : m ≠ n := fun e => by rw [e, h.fresh (.inr hlt)] at hm; cases hm
    simp only [if_neg hmn]
    exact h.hist m e hm hfx
theorem Sub.adoptL {ts : List (Nat × AV)} {os : List (Nat × AO)} (d n T sz z : Nat) (hd : look ts d = .nils z) (hn : lookO os n = none) {B : AState} (h : Sub (mkA ((d, .own n 0) :: ts) ((n, .row T sz []) :: os)) B) (hlt : n < 1000000 := by decide) : Sub (mkA ts os) B :=
  ((Sub.adopt (A := mkA ts os) (T := T) (sz := sz) hd hn hlt).trans (by rw [mkA_setO, mkA_put]; exact Sub.refl _)).trans h
/-- The number at a place of an array. -/
def Arr.g {n : Nat} (x : Arr n Int) (k : Nat) : Int := x.l.getD k 0
theorem Arr.g_eq {n k : Nat} (x : Arr n Int) (h : k < n) : x.l[k]'(x.lt h) = x.g k := by simp [Arr.g, x.lt h]
theorem atL_g {n k : Nat} {p : List Nat} (x : Arr n Int) (h : k < n) : atL k p (some (x.l.map enc)) = (AV.int .i64 (x.g k)).at p := by
  rw [atL_enc h, x.g_eq h]; rfl
theorem get_g {n k : Nat} (x : Arr n Int) (h : k < n) : (x.l.map (enc (α := Int)))[k]? = some (AV.int .i64 (x.g k)) := by
  rw [get_arr x h, x.g_eq h]; rfl
theorem okdR : (∀ k n, okLd none (.int k n) = true) ∧ (∀ b, okLd none (.bool b) = true) ∧ (∀ z es, okLd none (.slice z es) = true) ∧ (∀ f es, okLd none (.func f es) = true) ∧ (∀ z, okLd none (.nils z) = true) ∧ (∀ n k, okLd none (.own n k) = true) :=
  ⟨fun _ _ => rfl, fun _ => rfl, fun _ _ => rfl, fun _ _ => rfl, fun _ => rfl, fun _ _ => rfl⟩
theorem all_true {p : Nat → Bool} {n : Nat} (h : ∀ k, k < n → p k = true) : (List.range n).all p = true := by
  simp only [List.all_eq_true, List.mem_range]; exact h
theorem all_false {p : Nat → Bool} {n : Nat} (i : Nat) (hi : i < n) (h : p i = false) : (List.range n).all p = false := by
  simp only [List.all_eq_false, List.mem_range]; exact ⟨i, hi, by simp [h]⟩
/-- All of these rules, and what of the house's own they are used with. -/
theorem bR : (type_of% @absR) ∧ (type_of% @opsR) ∧ (type_of% @opsR2) ∧ (type_of% @intsR) ∧ (type_of% @okdR) ∧ (type_of% @valR) ∧ (type_of% @finRs) ∧ (type_of% @binR) ∧ (∀ n : Int, (enc n : AV) = .int .i64 n) ∧ (∀ n : Bool, (enc n : AV) = .bool n) ∧
    (∀ {α β : Type} (f : α → β) (x : α) (xs : List α), List.map f (x :: xs) = f x :: List.map f xs) ∧ (∀ {α β : Type} (f : α → β), List.map f [] = []) ∧ (∀ {α : Type} (xs : List α), [] ++ xs = xs) ∧ (∀ n : Nat, (n : Int).toNat = n) ∧ (∀ {α β : Type} (f : α → β) (x : α), Option.map f (some x) = some (f x)) ∧
    (∀ n : Nat, 0 ≤ (n : Int)) ∧ ((!true) = false) ∧ ((!false) = true) ∧ ((false = true) = False) ∧ ((true = false) = False) :=
  ⟨@absR, @opsR, @opsR2, @intsR, @okdR, @valR, @finRs, @binR, e_int, e_bool, fun _ _ _ => rfl, fun _ => rfl, fun _ => rfl, fun _ => rfl, fun _ _ => rfl, fun n => Int.natCast_nonneg n, rfl, rfl, by simp, by simp⟩
end Go.Abs

/-
  THE ABSTRACT LAYER, 20: objects handed over: rules in the form in which they are used. Over any program.
-/
namespace Go.Abs
open Go Go.RowKit
open Enc (enc)
theorem CtrY.mk' {P : Program} {f : FuncId} {fn : Func} {x : AC} {rs : List RV} {Y : Value → List AV → List (Nat × AO) → Post → Prop} {args : List AV} {os : List (Nat × AO)} {post : Post} (hf : P.funcs[f]? = some fn) (hcall : callable P f = true) (hc : (fn.body.bind (cCode P fn.ntmps)) = some x)
    (hrs : cRes P fn.results.toList = some rs) (hn : args.length ≤ fn.ntmps) (hn2 : fn.ntmps ≤ 1000000) (hos : ∀ m, isIn os m = true → 1000000 ≤ m) (h : AV.wfs args → ∀ (w : World) (D : Dom) (E : Env), AW ⟨P, w, D, fn.ntmps, ownE E, E, Y, none⟩ x (retO rs post) (mkA (idx 0 args) os)) : CtrY P f Y args os post := by
  obtain ⟨body, hb, hc'⟩ := Option.bind_eq_some_iff.1 hc
  refine ⟨hcall, fun w D E vs hy hD ho hv => ?_⟩
  exact (CtrY.of_AW hf hb hcall hc' hrs hn (fun m hm => ⟨Nat.le_trans hn2 (hos m hm), hos m hm⟩) (fun w D E => (h (rvs_wf _ _ hv) w D E).sub (start_mkO args os))).2 w D E vs hy hD ho hv
theorem CtrO.mk' {P : Program} {f : FuncId} {fn : Func} {x : AC} {rs : List RV} {args : List AV} {os : List (Nat × AO)} {post : Post} (hf : P.funcs[f]? = some fn) (hcall : callable P f = true) (hc : (fn.body.bind (cCode P fn.ntmps)) = some x)
    (hrs : cRes P fn.results.toList = some rs) (hn : args.length ≤ fn.ntmps) (hn2 : fn.ntmps ≤ 1000000) (hos : ∀ m, isIn os m = true → 1000000 ≤ m) (h : AV.wfs args → ∀ (w : World) (D : Dom) (E : Env), AW ⟨P, w, D, fn.ntmps, ownE E, E, noY, none⟩ x (retO rs post) (mkA (idx 0 args) os)) : CtrO P f args os post :=
  CtrO.of_Y (CtrY.mk' hf hcall hc hrs hn hn2 hos h)
/-- One object is handed back, or none. -/
theorem held0 {A : AState} : ∀ n x, lookO [] n = some x → A.o n = some x ∧ x.only (isIn []) = true ∧ x.fix = true := fun n x h => by simp [lookO] at h
theorem held1 {A : AState} {k : Nat} {c : AV} (h1 : A.o k = some (.box c)) (h2 : ∀ p, c.only p = true) : ∀ n x, lookO [(k, .box c)] n = some x → A.o n = some x ∧ x.only (isIn [(k, .box c)]) = true ∧ x.fix = true := fun n x h => by
  simp only [lookO] at h
  split at h
  · rename_i hn
    subst hn
    simp only [Option.some.injEq] at h
    subst h
    exact ⟨h1, h2 _, rfl⟩
  · cases h
theorem Bck.nil {bx : Bool} {ρ : List (Nat × Nat)} {os0 : List (Nat × AO)} {r : AV} (h1 : ∀ p, r.only p = true) (h2 : bx = true → r.lean = true) : Bck bx ρ [] os0 r [] :=
  ⟨fun m x h => by simp [lookO] at h, fun m m' h => by simp [isIn, lookO] at h, fun m h => by simp [isIn, lookO] at h, fun m h => by simp [isIn, lookO] at h, h1 _, h2⟩
theorem isIn_one {k : Nat} {x : AO} {m : Nat} : isIn [(k, x)] m = true ↔ m = k := by
  simp only [isIn, lookO]; split <;> simp_all
/-- A new object comes back. -/
theorem Bck.new1 {bx : Bool} {k d : Nat} {os0 : List (Nat × AO)} {r c : AV} (h1 : ∀ p, c.only p = true) (h2 : bx = true → c.lean = true) (h3 : r.only (isIn [(k, .box c)]) = true) (h4 : bx = true → r.lean = true) (h5 : lookO os0 d = none) (h6 : d < 1000000) : Bck bx [(k, d)] [] os0 r [(k, .box c)] := by
  refine ⟨fun m x h => ?_, fun m m' h h' _ => ?_, fun m h => by simp [isIn, lookO] at h, fun m h _ => ?_, h3, h4⟩
  · simp only [lookO] at h
    split at h
    · simp only [Option.some.injEq] at h; subst h; exact ⟨h1 _, rfl, h2⟩
    · cases h
  · rw [isIn_one.1 h, isIn_one.1 h']
  · rw [isIn_one.1 h]; simp [rnm, h5, h6]
/-- The object that was handed over comes back. -/
theorem Bck.one {bx : Bool} {k d : Nat} {x : AO} {os0 : List (Nat × AO)} {r c : AV} (h1 : ∀ p, c.only p = true) (h2 : bx = true → c.lean = true) (h3 : r.only (isIn [(k, .box c)]) = true) (h4 : bx = true → r.lean = true) : Bck bx [(k, d)] [(k, x)] os0 r [(k, .box c)] := by
  refine ⟨fun m x h => ?_, fun m m' h h' _ => ?_, fun m h => ?_, fun m h h' => ?_, h3, h4⟩
  · simp only [lookO] at h
    split at h
    · simp only [Option.some.injEq] at h; subst h; exact ⟨h1 _, rfl, h2⟩
    · cases h
  · rw [isIn_one.1 h, isIn_one.1 h']
  · rw [isIn_one.1 h]; exact isIn_one.2 rfl
  · rw [isIn_one.1 h] at h'
    have : isIn [(k, x)] k = true := isIn_one.2 rfl
    rw [this] at h'; cases h'
theorem Gvn.nil {ρ : List (Nat × Nat)} {os0 : List (Nat × AO)} : Gvn ρ [] os0 := ⟨fun m x h => by simp [lookO] at h, fun m m' h => by simp [isIn, lookO] at h⟩
mutual
theorem ren_closed (ρ : Nat → Nat) : ∀ x : AV, x.closed = true → x.ren ρ = x
  | .agg fs, h => by simp only [AV.ren, AV.closed] at *; rw [rens_closed ρ fs h]
  | .slice _ es, h => by simp only [AV.ren, AV.closed] at *; rw [rens_closed ρ es h]
  | .ref x, h => by simp only [AV.ren, AV.closed] at *; rw [ren_closed ρ x h]
  | .func _ caps, h => by simp only [AV.ren, AV.closed] at *; rw [rens_closed ρ caps h]
  | .iface _ v, h => by simp only [AV.ren, AV.closed] at *; rw [ren_closed ρ v h]
  | .bool _, _ | .int _ _, _ | .str _, _ | .nilp, _ | .nilf, _ | .nili, _ | .raw _, _ | .nils _, _ | .c0 _, _ => by simp only [AV.ren]
  | .ptr _ _, h | .own _ _, h | .view _ _ _ _ _, h | .undef, h | .top, h | .tuple _, h => by simp [AV.closed] at h
theorem rens_closed (ρ : Nat → Nat) : ∀ xs : List AV, AV.closeds xs = true → AV.rens ρ xs = xs
  | [], _ => rfl
  | x :: xs, h => by
    simp only [AV.closeds, Bool.and_eq_true] at h
    simp only [AV.rens, ren_closed ρ x h.1, rens_closed ρ xs h.2]
end
theorem renR :
    (∀ (k : IntKind) n (ρ : Nat → Nat), (AV.int k n).ren ρ = .int k n) ∧ (∀ (b : Bool) (ρ : Nat → Nat), (AV.bool b).ren ρ = .bool b) ∧ (∀ n p (ρ : Nat → Nat), (AV.ptr n p).ren ρ = .ptr (ρ n) p) ∧
    (∀ n p sz lo k (ρ : Nat → Nat), (AV.view n p sz lo k).ren ρ = .view (ρ n) p sz lo k) ∧ (∀ fs (ρ : Nat → Nat), (AV.agg fs).ren ρ = .agg (AV.rens ρ fs)) ∧ (∀ fs (ρ : Nat → Nat), (AV.tuple fs).ren ρ = .tuple (AV.rens ρ fs)) ∧ (∀ f fs (ρ : Nat → Nat), (AV.func f fs).ren ρ = .func f (AV.rens ρ fs)) ∧
    (∀ ρ : Nat → Nat, AV.rens ρ [] = []) ∧ (∀ (ρ : Nat → Nat) x xs, AV.rens ρ (x :: xs) = x.ren ρ :: AV.rens ρ xs) ∧ (∀ (ρ : Nat → Nat) (x : AV), (AO.box x).ren ρ = .box (x.ren ρ)) ∧
    (∀ (z : Nat) (ρ : Nat → Nat), (AV.nils z).ren ρ = .nils z) ∧ (∀ (z : Nat) (ρ : Nat → Nat), (AV.c0 z).ren ρ = .c0 z) ∧
    (∀ n, rnm [] n = n) ∧ (∀ a b r n, rnm ((a, b) :: r) n = if n = a then b else rnm r n) ∧ (∀ ρ, renO ρ [] = []) ∧ (∀ ρ k x os, renO ρ ((k, x) :: os) = (rnm ρ k, x.ren (rnm ρ)) :: renO ρ os) :=
  ⟨fun _ _ _ => by simp only [AV.ren], fun _ _ => by simp only [AV.ren], fun _ _ _ => by simp only [AV.ren], fun _ _ _ _ _ _ => by simp only [AV.ren], fun _ _ => by simp only [AV.ren], fun _ _ => by simp only [AV.ren], fun _ _ _ => by simp only [AV.ren],
    fun _ => rfl, fun _ _ _ => by simp only [AV.rens], fun _ _ => rfl, fun _ _ => by simp only [AV.ren], fun _ _ => by simp only [AV.ren], fun _ => rfl, fun _ _ _ _ => rfl, fun _ => rfl, fun _ _ _ _ => rfl⟩
section
variable {α : Type} [Enc α]
theorem e_ren (ρ : Nat → Nat) (x : α) : (enc x).ren ρ = enc x := ren_closed ρ _ (e_closed x)
theorem rens_map_enc (ρ : Nat → Nat) (l : List α) : AV.rens ρ (l.map enc) = l.map enc := rens_closed ρ _ (closeds_map l)
/-- Data that reads no memory. -/
class Lean0 (α : Type) [Enc α] : Prop where
  lean : ∀ x : α, (enc x).lean = true
theorem e_lean [Lean0 α] (x : α) : (enc x).lean = true := Lean0.lean x
theorem leans_map [Lean0 α] (l : List α) : AV.leans (l.map enc) = true := by
  induction l with
  | nil => rfl
  | cons x l ih => simp only [List.map_cons, AV.leans, e_lean, ih, Bool.and_self]
instance : Lean0 Int := ⟨fun _ => rfl⟩
instance : Lean0 Bool := ⟨fun _ => rfl⟩
instance {n : Nat} [Lean0 α] : Lean0 (Arr n α) := ⟨fun x => by simp only [enc, AV.lean]; exact leans_map x.l⟩
theorem srcL_enc (A : AState) (esz : Nat) (l : List α) (hs : Enc.sz α = esz) : srcL A esz (enc l) = some (l.map enc) := by
  simp only [e_list, srcL, hs, if_true]
theorem und_enc (l : List α) : und (enc l) = l.isEmpty := by
  simp only [e_list, und]; cases l <;> rfl
theorem nilE_enc (neg : Bool) (l : List α) (h : l ≠ []) : nilE neg (enc l) = some (.bool neg) := by
  simp only [e_list, nilE]
  cases l with
  | nil => exact absurd rfl h
  | cons => rfl
section
variable {P : Program} {Y : Value → List AV → List (Nat × AO) → Post → Prop} {K : AState → Prop} {A : AState} {rest : List G} {d : Nat} {e esz bytes : Nat} {q : Nat}
theorem WP.appNew (z : α) {l : List α} (hs : Enc.sz α = esz) (hl : l ≠ []) (hf : A.o d = none) (hb : l.length * bytes ≤ 140737488355328) (hml : l.length ≤ maxLen)
    (h : ∀ m, WP P Y false K (aops rest ((A.setO d (.box (.agg ((l ++ List.replicate m z).map enc)))).putO (some d) (.view d [] esz 0 l.length)))) : WP P Y false K (appR A (some d) e esz bytes (enc z) (enc l) rest (.c0 q)) := by
  have hne : l.map (enc (α := α)) ≠ [] := by simpa using hl
  have h1 : srcL A esz (.c0 q) = some [] := rfl
  simp only [appR, h1, srcL_enc A esz l hs, appO, if_neg hne, appG, hf, List.length_nil, Nat.zero_add, List.length_map, if_pos (And.intro hb hml), List.nil_append]
  refine .any rfl fun m _ => ?_
  have := h m
  simp only [List.map_append, List.map_replicate] at this
  exact this
theorem appR_nothing (z : AV) (hs : Enc.sz α = esz) : appR A (some d) e esz bytes z (enc ([] : List α)) rest (.c0 q) = aops rest (A.putO (some d) (.c0 q)) := by
  have h1 : srcL A esz (.c0 q) = some [] := rfl
  simp only [appR, h1, srcL_enc A esz ([] : List α) hs, appO, List.map_nil, if_true]
/-- The places of a slice's variable, cleared from one on. -/
theorem o_clr (esz : Nat) (z : AV) (x : AOpd) (rest : List G) (A : AState) : opR A none (.clr esz z x) rest = clrO A esz z (aops rest) (ev A x) := rfl
theorem shs_rep (z : α) (k : Nat) : AV.shs (List.replicate k (enc z)) = List.replicate k (Enc.sh α) := by
  have : List.replicate k (enc z) = (List.replicate k z).map (enc (α := α)) := by simp
  rw [this, shs_map]; simp
theorem clrO_enc (z : α) {n lo k : Nat} {xs : List α} (ho : A.o n = some (.box (.agg (xs.map enc)))) (hk : lo + k ≤ xs.length) :
    clrO A esz (enc z) (aops rest) (.view n [] esz lo k) = aops rest (A.setO n (.box (.agg ((xs.take lo ++ (List.replicate k z ++ xs.drop (lo + k))).map enc)))) := by
  have h1 : AV.shs (List.replicate k (enc z)) = AV.shs (((xs.map (enc (α := α))).drop lo).take k) := by
    rw [shs_rep, ← List.map_drop, ← List.map_take, shs_map, List.length_take, List.length_drop]
    congr 1; omega
  have h2 : (AV.agg (xs.map (enc (α := α)))).at [] = some (.agg (xs.map enc)) := rfl
  simp only [clrO, ho, h2]
  rw [if_pos ⟨rfl, h1⟩]
  simp only [setSeg, setAt_nil, List.map_append, List.map_take, List.map_drop, List.map_replicate, List.length_replicate]
theorem sliceV_hi {n : Nat} {p : List Nat} {sz k total i : Nat} (h : i ≤ total) (h0 : 0 < total) : sliceV n p sz 0 k total none (some (.int .i64 i)) none = some (.view n p sz 0 i) := by
  simp only [sliceV, bound]
  rw [if_pos ⟨by omega, by omega, by omega⟩, if_neg (by omega)]
  simp
theorem sliceV_lo {n : Nat} {p : List Nat} {sz k total i : Nat} (h : i ≤ k) (hk : k ≤ total) (h0 : i < total) : sliceV n p sz 0 k total (some (.int .i64 i)) none none = some (.view n p sz i (k - i)) := by
  simp only [sliceV, bound]
  rw [if_pos ⟨by omega, by omega, by omega⟩, if_neg (by omega)]
  simp
theorem isV_ok {m : Nat} {p : List Nat} {sz lo l j : Nat} {fs : List AV} (h : j < l) : isV m p sz lo l sz (j : Int) (some fs) = some (.ptr m (p ++ [lo + j])) := by
  simp only [isV, true_and]
  rw [if_pos ⟨by omega, by omega⟩]
  simp
theorem finV_take {sz k : Nat} {xs : List α} (hs : Enc.sz α = sz) : finV sz 0 k (some (xs.map enc)) = some (enc (xs.take k)) := by
  have h : ((xs.map (enc (α := α))).drop 0).take k = (xs.take k).map enc := by rw [List.drop_zero, List.map_take]
  simp only [finV, h]
  rw [if_pos (closeds_map _), e_list, hs]
end
end
theorem isE_view (A : AState) (esz m : Nat) (p : List Nat) (sz lo l : Nat) (k : Int) : isE A esz k (.view m p sz lo l) = isV m p sz lo l esz k (fldsO (derefP p (A.o m))) := rfl
theorem lenE_view (A : AState) (m : Nat) (p : List Nat) (sz lo l : Nat) : lenE A (.view m p sz lo l) = some (.int .i64 l) := rfl
theorem slE_view (A : AState) (esz : Nat) (lo hi mx : Option AV) (n : Nat) (p : List Nat) (l0 k : Nat) : slE A esz lo hi mx (.view n p esz l0 k) = slV n p esz l0 k esz lo hi mx (fldsO (derefP p (A.o n))) := rfl
theorem slV_some (n : Nat) (p : List Nat) (sz l0 k : Nat) (lo hi mx : Option AV) (fs : List AV) : slV n p sz l0 k sz lo hi mx (some fs) = sliceV n p sz l0 k fs.length lo hi mx := by simp [slV]
theorem viewR :
    (∀ A esz m p sz lo l k, isE A esz k (.view m p sz lo l) = isV m p sz lo l esz k (fldsO (derefP p (A.o m)))) ∧ (∀ A m p sz lo l, lenE A (.view m p sz lo l) = some (.int .i64 l)) ∧
    (∀ A esz lo hi mx n p l0 k, slE A esz lo hi mx (.view n p esz l0 k) = slV n p esz l0 k esz lo hi mx (fldsO (derefP p (A.o n)))) ∧ (∀ n p sz l0 k lo hi mx fs, slV n p sz l0 k sz lo hi mx (some fs) = sliceV n p sz l0 k fs.length lo hi mx) ∧
    (∀ esz z x rest A, opR A none (.clr esz z x) rest = clrO A esz z (aops rest) (ev A x)) ∧ (∀ rest A d esz, opR A d (.bs0 esz) rest = aops rest (A.putO d (.c0 esz))) :=
  ⟨isE_view, lenE_view, slE_view, slV_some, o_clr, fun _ _ _ _ => rfl⟩
theorem retO_ret (rs : List RV) (post : Post) (A : AState) : retO rs post .ret A = RetO rs post A := rfl
theorem retO_normal (rs : List RV) (post : Post) (A : AState) : retO rs post .normal A = RetO rs post A := rfl
end Go.Abs

/-
  THE ABSTRACT LAYER, 21: a range over a function. The frame's variables in memory go with the loop's record to the iterator, which hands them on to each round. Over any program.
-/
namespace Go.Abs
open Go Go.RowKit
open Enc (enc)
mutual
theorem only_mono {p q : Nat → Bool} (h : ∀ n, p n = true → q n = true) : ∀ x : AV, x.only p = true → x.only q = true
  | .agg fs, hx | .tuple fs, hx => by simp only [AV.only] at *; exact onlys_mono h fs hx
  | .slice _ es, hx => by simp only [AV.only] at *; exact onlys_mono h es hx
  | .ref x, hx => by simp only [AV.only] at *; exact only_mono h x hx
  | .func _ caps, hx => by simp only [AV.only] at *; exact onlys_mono h caps hx
  | .iface _ v, hx => by simp only [AV.only] at *; exact only_mono h v hx
  | .ptr _ _, hx | .own _ _, hx | .view _ _ _ _ _, hx => by simp only [AV.only] at *; exact h _ hx
  | .bool _, _ | .int _ _, _ | .str _, _ | .nilp, _ | .nilf, _ | .nili, _ | .raw _, _ | .nils _, _ | .c0 _, _ | .undef, _ | .top, _ => by simp [AV.only]
theorem onlys_mono {p q : Nat → Bool} (h : ∀ n, p n = true → q n = true) : ∀ xs : List AV, AV.onlys p xs = true → AV.onlys q xs = true
  | [], _ => rfl
  | x :: xs, hx => by
    simp only [AV.onlys, Bool.and_eq_true] at *
    exact ⟨only_mono h x hx.1, onlys_mono h xs hx.2⟩
end
theorem AO.only_mono {p q : Nat → Bool} (h : ∀ n, p n = true → q n = true) (x : AO) (hx : x.only p = true) : x.only q = true := by
  cases x with
  | box y => simp only [AO.only] at *; exact Abs.only_mono h y hx
  | row T sz es => simp only [AO.only] at *; exact onlys_mono h es hx
  | opq o => rfl
theorem isVal_closed {x : AV} (h : x.closed = true) : x.isVal = true := by
  cases x <;> first | rfl | simp [AV.closed] at h
theorem argsOk_closed {bx : Bool} {A0 : AState} {ρ : List (Nat × Nat)} {os : List (Nat × AO)} : ∀ xs : List AV, AV.closeds xs = true → argsOk bx A0 ρ os xs xs
  | [], _ => trivial
  | x :: xs, h => by
    simp only [AV.closeds, Bool.and_eq_true] at h
    exact ⟨.inl ⟨(ren_closed _ x h.1).symm, only_closed _ x h.1, isVal_closed h.1⟩, argsOk_closed xs h.2⟩
/-- The objects' names and kinds are as at the beginning; they speak of themselves alone. -/
structure GoodO (os os' : List (Nat × AO)) : Prop where
  same : ∀ m, isIn os' m = isIn os m
  ok : ∀ m x, lookO os' m = some x → x.only (isIn os') = true ∧ x.fix = true
  great : ∀ m, isIn os m = true → 1000000 ≤ m
/-- **An iterator**: it yields these 'N' lists of values, one after the other, as long as it is told to go on. -/
def Iter (P : Program) (g : FuncId) (caps : List AV) (N : Nat) (item : Nat → List AV) : Prop :=
  ∀ (Y : Value → List AV → List (Nat × AO) → Post → Prop) (v : Value) (I : Nat → List (Nat × AO) → Prop) (Ix : List (Nat × AO) → Prop) (os : List (Nat × AO)), v.oneCell' = true →
    (∀ k os' post, k < N → I k os' → (∀ r os2, (r = .bool true ∧ I (k + 1) os2) ∨ (r = .bool false ∧ Ix os2) → post r os2) → Y v (item k) os' post) →
    (∀ k os', I k os' → GoodO os os') → (∀ os', Ix os' → GoodO os os') → I 0 os → CtrY P g Y (.raw v :: caps) os (fun r os' => r = .tuple [] ∧ (I N os' ∨ Ix os'))
/-- The loop's record goes with the objects. -/
def recd (o : Obj) (os : List (Nat × AO)) : List (Nat × AO) := (1999999, .opq o) :: os
theorem isIn_recd (o : Obj) (os : List (Nat × AO)) (m : Nat) : isIn (recd o os) m = (decide (m = 1999999) || isIn os m) := by
  simp only [recd, isIn, lookO]
  by_cases h : m = 1999999 <;> simp [h]
theorem lookO_recd (o : Obj) (os : List (Nat × AO)) (m : Nat) : lookO (recd o os) m = if m = 1999999 then some (.opq o) else lookO os m := rfl
theorem GoodO.recd {os os' : List (Nat × AO)} (h : GoodO os os') (o o' : Obj) : GoodO (recd o os) (recd o' os') := by
  refine ⟨fun m => by rw [isIn_recd, isIn_recd, h.same], fun m x hx => ?_, fun m hm => ?_⟩
  · rw [lookO_recd] at hx
    split at hx
    · cases hx; exact ⟨rfl, rfl⟩
    · obtain ⟨h1, h2⟩ := h.ok m x hx
      exact ⟨x.only_mono (fun n hn => by rw [isIn_recd, hn]; simp) h1, h2⟩
  · rw [isIn_recd] at hm
    simp only [Bool.or_eq_true, decide_eq_true_eq] at hm
    rcases hm with rfl | hm
    · decide
    · exact h.great m hm
/-- Yield's values are put into the slots. -/
def putsT : List Nat → List AV → List (Nat × AV) → List (Nat × AV)
  | p :: ps, v :: vs, ts => putsT ps vs ((p, v) :: ts)
  | _, _, ts => ts
/-- These slots, told by other names. -/
def slotsOk (ρ : List (Nat × Nat)) (p : Nat → Bool) (ts : List (Nat × AV)) : List (Nat × AV) → Prop
  | [] => True
  | (k, v) :: r => look ts k = v.ren (rnm ρ) ∧ v.only p = true ∧ slotsOk ρ p ts r
theorem slotsOk_get {ρ : List (Nat × Nat)} {p : Nat → Bool} {ts : List (Nat × AV)} : ∀ {tsR : List (Nat × AV)}, slotsOk ρ p ts tsR → ∀ k, look tsR k = .top ∨ (look ts k = (look tsR k).ren (rnm ρ) ∧ (look tsR k).only p = true)
  | [], _, k => .inl rfl
  | (j, v) :: r, h, k => by
    simp only [slotsOk] at h
    simp only [look]
    split
    · rename_i hk; subst hk; exact .inr ⟨h.1, h.2.1⟩
    · exact slotsOk_get h.2.2 k
section
variable {c : Ctx} {a : Act} {w : World} {D : Dom} {E : Env}
/-- The record is written. -/
theorem SimW.setOpq {A : AState} (h : SimW c A a w D E) {n b : Nat} {o o' : Obj} (hn : A.o n = some (.opq o)) (hE : E n = some (.op b)) (ho : isRec o' = true) : SimW c (A.setO n (.opq o')) a (w.putObj b o') D E := by
  have hob := h.obj n
  rw [hn] at hob
  obtain ⟨b', k1, k2, k3, k4, k5⟩ := hob
  rw [hE] at k1
  cases k1
  have hnc : o.isCells = false := by cases o <;> first | rfl | cases k4
  have hlt : b < w.heap.size := heap_lt k3
  have hl : Later w D E (w.putObj b o') D E := ⟨fun _ _ h => h, fun b1 o1 v _ hv => cell_putObj k3 hnc hv, fun _ _ _ h => h, fun _ blk l h => ⟨blk, l, h, Nat.le_refl _, fun _ => rfl⟩⟩
  refine ⟨h.sz, h.defs.mono fun B _ hB => (World.putObj_heap_other (fun e => by rw [e, k3] at hB; cases hB; cases k4)).trans hB, fun t => rv.later hl (h.tm t), h.unch.trans ⟨rfl, rfl, rfl, by simp, fun k hk => World.putObj_heap_other (fun e => hk (e ▸ k2))⟩, h.dom,
    fun b1 o1 hd => by have := h.live b1 o1 hd; simpa using this, fun m => ?_, h.sep, h.hist, h.nam, h.up, h.yok⟩
  simp only [AState.setO]
  by_cases hm : m = n
  · subst hm
    simp only [if_true, objOk]
    exact ⟨b, hE, k2, World.putObj_heap_same hlt, ho, k5⟩
  · simp only [if_neg hm]
    exact (h.obj m).later hl rfl fun e b1 he hb => ⟨World.putObj_heap_other (fun e1 => hm (h.sep m n e _ b1 he hE hb (by rw [e1]; rfl))), fun _ ho => ho⟩
/-- The record is spoken of no more. -/
theorem SimW.dropOpq {A : AState} (h : SimW c A a w D E) {n b : Nat} (hE : E n = some (.op b)) : SimW c ⟨A.t, fun m => if m = n then none else A.o m⟩ a w D (fun m => if m = n then none else E m) := by
  have hne : ∀ {m : Nat} {e : Ent}, E m = some e → (∀ b, e ≠ .op b) → m ≠ n := fun he h2 e' => by
    subst e'; rw [hE] at he; cases he; exact h2 _ rfl
  have hl : Later w D E w D (fun m => if m = n then none else E m) := by
    refine ⟨fun _ _ h => h, fun _ _ _ _ h => h, fun m b sh he => ?_, fun m blk l he => ⟨blk, l, ?_, Nat.le_refl _, fun _ => rfl⟩⟩
    · simp only [if_neg (hne he (fun b => by simp))]; exact he
    · simp only [if_neg (hne he (fun b => by simp))]; exact he
  refine ⟨h.sz, h.defs, fun t => rv.later hl (h.tm t), h.unch, h.dom, h.live, fun m => ?_, fun m m' e e' b h1 h2 h3 h4 => ?_, fun m e hm hfx => ?_, h.nam, h.up, h.yok⟩
  · by_cases hm : m = n
    · simp only [hm, if_true, objOk]
    · simp only [if_neg hm]
      exact (h.obj m).later hl (by simp only [if_neg hm]) fun _ _ _ _ => ⟨rfl, fun _ ho => ho⟩
  · split at h1
    · cases h1
    · split at h2
      · cases h2
      · exact h.sep m m' e e' b h1 h2 h3 h4
  · by_cases hmn : m = n
    · left; simp only [hmn, if_true]
    · simp only [if_neg hmn]; exact h.hist m e hm hfx
/-- The statement is entered: its record is laid. -/
theorem SimW.enter {ts : List (Nat × AV)} {os0 : List (Nat × AO)} (h : SimW c (mkA ts os0) a w D E) (hfree : lookO os0 999999 = none) (hE0 : c.E0 999999 = none) {o : Obj} (ho : isRec o = true) :
    ∃ E1, SimW c (mkA ts ((999999, .opq o) :: os0)) { a with defers := { target := .collected w.heap.size, args := #[] } :: a.defers } ((w.alloc (.deferred (some []))).alloc o) D E1 ∧ E1 999999 = some (.op (w.heap.size + 1)) ∧ ∀ xs vs, rvs w D E xs vs → rvs ((w.alloc (.deferred (some []))).alloc o) D E1 xs vs := by
  have hb : Below w.heap.size w ((w.alloc (.deferred (some []))).alloc o) := ((Below.refl _ w).alloc (Nat.le_refl _) _).alloc (by simp) _
  have h1 := h.grow (D' := D) hb (fun _ _ h => h) (fun _ _ h _ => h) (fun b o' hd => by have := h.live b o' hd; simp; omega)
  obtain ⟨W, hW⟩ : ∃ W, W = (w.alloc (.deferred (some []))).alloc o := ⟨_, rfl⟩
  have hL : W.heap[w.heap.size + 1]? = some o := by
    rw [hW]; have := World.alloc_heap_new (w.alloc (.deferred (some []))) o; rwa [World.size_alloc] at this
  have hK : W.heap[w.heap.size]? = some (.deferred (some [])) := by
    rw [hW]; exact (Below.heap_alloc _ _ _ (by simp)).trans (World.alloc_heap_new w _)
  rw [← hW] at h1 hb ⊢
  have hEn : E 999999 = none := by have := h.obj 999999; simp only [mkA, hfree] at this; exact this
  have hl : Later W D E W D (fun m => if m = 999999 then some (.op (w.heap.size + 1)) else E m) := by
    refine ⟨fun _ _ h => h, fun _ _ _ _ h => h, fun m b sh he => ?_, fun m blk l he => ⟨blk, l, ?_, Nat.le_refl _, fun _ => rfl⟩⟩
    · have : m ≠ 999999 := fun e => by rw [e, hEn] at he; cases he
      simp only [if_neg this]; exact he
    · have : m ≠ 999999 := fun e => by rw [e, hEn] at he; cases he
      simp only [if_neg this]; exact he
  have hsz : c.w0.heap.size ≤ w.heap.size := h.unch.size
  have nb : ∀ {m : Nat} {e : Ent} {b : Nat}, E m = some e → e.blk = some b → b < w.heap.size := fun he hb' => h.blk_lt he hb'
  refine ⟨fun m => if m = 999999 then some (.op (w.heap.size + 1)) else E m, ⟨h1.sz, ?_, fun t => rv.later hl (h1.tm t), h1.unch, h1.dom, h1.live, fun m => ?_, fun m m' e e' b g1 g2 g3 g4 => ?_, fun m e hm hfx => ?_, h1.nam, h1.up, h1.yok⟩, by simp, fun xs vs hx => rvs.later hl xs vs (rvs.later (Later.grow hb fun _ _ h => h) xs vs hx)⟩
  · obtain ⟨Bs, k1, k2, k3⟩ := h1.defs
    refine ⟨w.heap.size :: Bs, by simp only [List.map_cons]; rw [← k1], List.nodup_cons.2 ⟨fun hin => ?_, k2⟩, fun B hB => ?_⟩
    · obtain ⟨Bs', j1, _, j3⟩ := h.defs
      have e1 : Bs = Bs' := by
        have : Bs.map (fun B => ({ target := .collected B, args := #[] } : Deferred)) = Bs'.map (fun B => { target := .collected B, args := #[] }) := by rw [← k1, ← j1]
        exact (List.map_inj_right (fun x y hxy => by simpa using hxy)).1 this
      rw [e1] at hin
      have := heap_lt (j3 _ hin).2
      omega
    · rcases List.mem_cons.1 hB with rfl | hB
      · exact ⟨hsz, hK⟩
      · exact k3 B hB
  · simp only [mkA, lookO]
    by_cases hm : m = 999999
    · subst hm
      simp only [if_true, objOk]
      exact ⟨_, rfl, .inl (by omega), hL, ho, fun o' hd => by have := h.live _ o' hd; omega⟩
    · simp only [if_neg hm]
      exact (h1.obj m).later hl (by simp only [if_neg hm]) fun _ _ _ _ => ⟨rfl, fun _ ho => ho⟩
  · by_cases hm : m = 999999 <;> by_cases hm' : m' = 999999
    · rw [hm, hm']
    · simp only [if_pos hm, Option.some.injEq] at g1
      simp only [if_neg hm'] at g2
      subst g1
      simp only [Ent.blk, Option.some.injEq] at g3
      have := nb g2 g4; omega
    · simp only [if_neg hm] at g1
      simp only [if_pos hm', Option.some.injEq] at g2
      subst g2
      simp only [Ent.blk, Option.some.injEq] at g4
      have := nb g1 g3; omega
    · simp only [if_neg hm] at g1; simp only [if_neg hm'] at g2; exact h.sep m m' e e' b g1 g2 g3 g4
  · have hmn : m ≠ 999999 := fun e => by rw [e, hE0] at hm; cases hm
    simp only [if_neg hmn]
    exact h.hist m e hm hfx
theorem objOk_some {M : Nat → Prop} {n : Nat} {x : AO} (h : objOk M w D E n (some x)) : E n ≠ none := by
  cases x with
  | box x => obtain ⟨b, cs, T, h1, _⟩ := h; rw [h1]; simp
  | row T sz es => obtain ⟨blk, h1, _⟩ := h; rw [h1]; simp
  | opq o => obtain ⟨b, h1, _⟩ := h; rw [h1]; simp
theorem objOk.mine {M M' : Nat → Prop} {n : Nat} {x : Option AO} (h : objOk M w D E n x) (hM : ∀ e b, E n = some e → e.blk = some b → M' b) : objOk M' w D E n x := by
  unfold objOk at *
  split
  · exact h
  · obtain ⟨b, cs, T, h1, _, h3⟩ := h
    exact ⟨b, cs, T, h1, hM _ b h1 rfl, h3⟩
  · obtain ⟨blk, h1, h2, h3⟩ := h
    refine ⟨blk, h1, h2, ?_⟩
    split
    · exact h3
    · obtain ⟨cs, pre, rest, _, h4⟩ := h3
      exact ⟨cs, pre, rest, hM _ _ h1 rfl, h4⟩
  · obtain ⟨b, h1, _, h3⟩ := h
    exact ⟨b, h1, hM _ b h1 rfl, h3⟩
theorem SimW.puts {os : List (Nat × AO)} : ∀ (ps : List Nat) (vs : List Value) (xs : List AV) (ts : List (Nat × AV)) (a : Act), SimW c (mkA ts os) a w D E → (∀ p ∈ ps, p < c.n) → rvs w D E xs vs → ps.length = vs.length →
    SimW c (mkA (putsT ps xs ts) os) { a with tmps := (ps.zip vs).foldl (fun t q => t.setIfInBounds q.1 q.2) a.tmps } w D E
  | [], [], xs, ts, a, h, _, hv, _ => by
    cases xs with
    | nil => exact h
    | cons x xs => simp [rvs] at hv
  | [], _ :: _, _, _, _, _, _, _, hl => by simp at hl
  | _ :: _, [], _, _, _, _, _, _, hl => by simp at hl
  | p :: ps, v :: vs, xs, ts, a, h, hp, hv, hl => by
    cases xs with
    | nil => simp [rvs] at hv
    | cons x xs =>
      simp only [rvs] at hv
      obtain ⟨v', rest, cs, e, h1, h2, h3⟩ := hv
      simp only [List.cons.injEq] at e
      obtain ⟨rfl, rfl⟩ := e
      have h4 := h.put (hp p (by simp)) (mk_val h1 h2)
      rw [mkA_put] at h4
      have := SimW.puts ps vs xs ((p, x) :: ts) (a.put (some p) v) h4 (fun q hq => hp q (by simp [hq])) h3 (by simpa using hl)
      exact this
end
end Go.Abs

/-
  THE ABSTRACT LAYER, 22: the rule of a range over a function, at an outermost loop. Over any program.
-/
namespace Go.Abs
open Go Go.RowKit
open Enc (enc)
/-- How a round may leave the loop: by a return, or by an exit of an outer block. -/
def jumpOf : Option Nat → Code
  | none => .ret
  | some id => .exit id
def exitOf : Option Nat → Exit
  | none => .ret
  | some id => .exit id
/-- What comes back at a round's end. -/
def Backs (o : Obj) (A : AState) (os : List (Nat × AO)) : Prop := ∀ n x, lookO (recd o os) n = some x → A.o n = some x ∧ x.only (isIn (recd o os)) = true ∧ x.fix = true
/-- The end of a round. -/
def roundQ (o : Obj) (In : List (Nat × AO) → Prop) (Ix : Option Nat → List (Nat × AO) → Prop) : Exit → AState → Prop
  | .normal, A => ∃ os, Backs o A os ∧ In os
  | .ret, A => ∃ os, Backs o A os ∧ Ix none os
  | .exit id, A => ∃ os, Backs o A os ∧ Ix (some id) os
  | _, _ => False
/-- A round: the loop variables are set, the record is busy, the body is walked. -/
def Round (P : Program) (nn : Nat) (x y : AC) (ps : List Nat) (tsR : List (Nat × AV)) (N : Nat) (item : Nat → List AV) (I : Nat → List (Nat × AO) → Prop) (Ix : Option Nat → List (Nat × AO) → Prop) : Prop :=
  ∀ k osb, k < N → I k osb → ∀ (w : World) (D : Dom) (E : Env) (l : Nat) (o1 o2 : Obj),
    AW ⟨P, w, D, nn, ownE E, E, noY, some l⟩ x (thenQ (fun B => B.o 1999999 = some (.opq o1) ∧ AW ⟨P, w, D, nn, ownE E, E, noY, some l⟩ y (roundQ o2 (I (k + 1)) Ix) (B.setO 1999999 (.opq o2))) (fun _ _ => False)) (mkA (putsT ps (item k) tsR) (recd o1 osb))
section
variable {c : Ctx} {Q : Exit → AState → Prop}
theorem held_backs {o : Obj} {A : AState} {os : List (Nat × AO)} (h : Backs o A os) (o' : Obj) : ∀ n x, lookO (recd o' os) n = some x → (A.setO 1999999 (.opq o')).o n = some x ∧ x.only (isIn (recd o' os)) = true ∧ x.fix = true := fun n x hx => by
  have e : isIn (recd o' os) = isIn (recd o os) := by funext m; rw [isIn_recd, isIn_recd]
  rw [e]
  by_cases hn : n = 1999999
  · subst hn
    rw [lookO_recd, if_pos rfl, Option.some.injEq] at hx
    subst hx
    exact ⟨by simp [AState.setO], rfl, rfl⟩
  · rw [lookO_recd, if_neg hn] at hx
    obtain ⟨h1, h2⟩ := h n x (by rw [lookO_recd, if_neg hn]; exact hx)
    exact ⟨by simp only [AState.setO, if_neg hn]; exact h1, h2⟩
theorem AW.rfun {f : AOpd} {ps : List Nat} {x y : AC} {ts tsR : List (Nat × AV)} {os0 osb0 : List (Nat × AO)} {ρ : List (Nat × Nat)} {g : FuncId} {caps : List AV} {N : Nat} {item : Nat → List AV}
    (I : Nat → List (Nat × AO) → Prop) (Ix : Option Nat → List (Nat × AO) → Prop) (hr : c.rnd = none) (hn6 : c.n ≤ 1000000)
    (hf : ev (mkA ts os0) f = .func g caps) (hcl : AV.closeds caps = true) (hcb : callable c.P g = true) (hit : Iter c.P g caps N item) (hlen : ∀ k, (item k).length = ps.length)
    (hfree : lookO os0 999999 = none) (h19 : isIn osb0 1999999 = false) (hρ : rnm ρ 1999999 = 999999)
    (hgv : ∀ o, Gvn ρ (recd o osb0) ((999999, .opq o) :: os0)) (hts : slotsOk ρ (isIn osb0) ts tsR)
    (hI : ∀ k os, I k os → GoodO osb0 os) (hIx : ∀ e os, Ix e os → GoodO osb0 os) (h0 : I 0 osb0)
    (hround : Round c.P c.n x y ps tsR N item I Ix)
    (hdone : ∀ os, I N os → Q .normal (mkA ts (renO ρ os ++ os0))) (hexit : ∀ e os, Ix e os → Q (exitOf e) (mkA ts (renO ρ os ++ os0))) :
    AW c (.rfun f ps x y) Q (mkA ts os0) := by
  intro code hc a w hs
  cases code <;> simp only [cCode] at hc <;> try (first | (cases hc; done) | ((repeat' split at hc) <;> cases hc; done))
  rename_i cf cps cx cy
  split at hc
  case h_2 => cases hc
  rename_i f' x' y' hcf hcx hcy
  split at hc
  case isFalse => cases hc
  rename_i hpn
  simp only [Option.some.injEq, AC.rfun.injEq] at hc
  obtain ⟨rfl, rfl, rfl, rfl⟩ := hc
  obtain ⟨D, E, hs⟩ := hs
  have hF : c.F = Fence.wide := by unfold Ctx.F; rw [hr]
  have hE0 : c.E0 999999 = none := hs.fresh (.inr (by decide))
  have hval : ∃ vs : List Value, a.eval cf = .func (.func g) #[] vs.toArray ∧ rvs w D E caps vs := by
    have hv := ev_ok hs hcf
    rw [hf] at hv
    obtain ⟨cs, q1, q2⟩ := hv
    simp only [rc] at q2
    obtain ⟨vs, q3, q4⟩ := q2
    exact ⟨vs, by simpa [isPack, AV.isAgg, q3] using q1.symm, q4⟩
  obtain ⟨vs, hval, hvs⟩ := hval
  rw [hF]
  refine wpIn_rangeFunc fun fn hfn => ?_
  obtain ⟨rec, hrec⟩ : ∃ rec : LoopState → Option Code → Loop, rec = fun st pe => { state := st, pending := pe, fn, tmps := a.tmps, params := cps, assign := cx, body := cy, defers := w.heap.size } := ⟨_, rfl⟩
  obtain ⟨E1, hs1, hE1, hup⟩ := hs.enter hfree hE0 (o := .loop (rec .ready none)) rfl
  obtain ⟨W1, hW1⟩ : ∃ W1, (w.alloc (.deferred (some []))).alloc (.loop (rec .ready none)) = W1 := ⟨_, rfl⟩
  rw [hW1] at hs1 hup
  obtain ⟨l, hl⟩ : ∃ l, l = w.heap.size + 1 := ⟨_, rfl⟩
  rw [← hl] at hE1
  obtain ⟨yv, hyv⟩ : ∃ yv : Value, yv = .func (.yield l) #[] #[] := ⟨_, rfl⟩
  obtain ⟨a1, ha1⟩ : ∃ a1 : Act, a1 = { a with defers := { target := .collected w.heap.size, args := #[] } :: a.defers } := ⟨_, rfl⟩
  rw [← ha1] at hs1
  refine ⟨l, [{ target := .collected w.heap.size, args := #[] }], W1, { target := .fn (.func g) vs.toArray, args := #[yv] }, W1, g, #[yv] ++ vs.toArray, W1, ?_, ?_, ?_, ?_, fun _ => by decide, ?_⟩
  · rw [← hW1, hrec, hl]
    exact run_enterLoop_outer _ _ _ _ _
  · simp only [resolve, hval, hyv]
    simp [go_sem]
  · intro f' _; trivial
  · simp only [invoke, run_callFunc hcb]
  · -- the iterator's own bargain
    have hG0 := hI 0 osb0 h0
    obtain ⟨I', hI'⟩ : ∃ I' : Nat → List (Nat × AO) → Prop, I' = fun k os => ∃ osb, os = recd (.loop (rec .ready none)) osb ∧ I k osb := ⟨_, rfl⟩
    obtain ⟨Ix', hIx'⟩ : ∃ Ix' : List (Nat × AO) → Prop, Ix' = fun os => ∃ e osb, os = recd (.loop (rec .done (some (jumpOf e)))) osb ∧ Ix e osb := ⟨_, rfl⟩
    obtain ⟨os1, hos1⟩ : ∃ os1, os1 = recd (.loop (rec .ready none)) osb0 := ⟨_, rfl⟩
    obtain ⟨Y, hY⟩ : ∃ Y : Value → List AV → List (Nat × AO) → Post → Prop, Y = fun v args os post => v = yv ∧ ∃ k, args = item k ∧ k < N ∧ I' k os ∧ ∀ r os2, (r = .bool true ∧ I' (k + 1) os2) ∨ (r = .bool false ∧ Ix' os2) → post r os2 := ⟨_, rfl⟩
    have good : ∀ k os', I' k os' → GoodO os1 os' := fun k os' h => by
      rw [hI'] at h; obtain ⟨osb, rfl, h⟩ := h
      rw [hos1]; exact (hI k osb h).recd _ _
    have goodx : ∀ os', Ix' os' → GoodO os1 os' := fun os' h => by
      rw [hIx'] at h; obtain ⟨e, osb, rfl, h⟩ := h
      rw [hos1]; exact (hIx e osb h).recd _ _
    have hctr := hit Y yv I' Ix' os1 (by rw [hyv]; rfl) (fun k os' post hk h1 h2 => by rw [hY]; exact ⟨rfl, k, rfl, hk, h1, h2⟩) good goodx (by rw [hI']; exact ⟨osb0, hos1, h0⟩)
    have hgv1 : Gvn ρ os1 ((999999, .opq (.loop (rec .ready none))) :: os0) := by rw [hos1]; exact hgv _
    obtain ⟨A0, hA0⟩ : ∃ A0 : AState, A0 = mkA ts ((999999, .opq (.loop (rec .ready none))) :: os0) := ⟨_, rfl⟩
    have hand : Hand (Calls c.P g) (fun w D E => ∀ n, YOk ⟨c.P, w, D, n, ownE E, E, Y, none⟩) (.raw yv :: caps) os1 (fun r os' => r = .tuple [] ∧ (I' N os' ∨ Ix' os')) := fun w D E vs hy hlive hheld hv => by
      refine (hctr.2 w D E vs hy hlive hheld hv).mono fun e w' ⟨v, he, D', E', r, os', q⟩ => ⟨v, D', E', r, os', he, q⟩
    have hshare := hs1.shareAll
    obtain ⟨Dh, hDh⟩ : ∃ Dh, Dh = rowsDom (mkA ts ((999999, .opq (.loop (rec .ready none))) :: os0)) D E1 := ⟨_, rfl⟩
    rw [← hDh] at hshare
    have hsh := hshare.1
    obtain ⟨Eh, hEh⟩ : ∃ Eh, Eh = hE ρ os1 E1 := ⟨_, rfl⟩
    have isrec : isIn os1 1999999 = true := by rw [hos1, isIn_recd]; simp
    have hEl : Eh 1999999 = some (.op l) := by rw [hEh]; simp only [hE, isrec, if_true, hρ]; exact hE1
    have EhIn : ∀ n e, Eh n = some e → isIn os1 n = true := fun n e h => by
      rw [hEh] at h; simp only [hE] at h; split at h
      · assumption
      · cases h
    have hyok : ∀ n, YOk ⟨c.P, W1, Dh, n, ownE Eh, Eh, Y, none⟩ := by
      intro n v' args os' post' hYv w2 D2 E2 vs2 hsince hlive hheld hrvs
      rw [hY] at hYv
      obtain ⟨rfl, k, rfl, hkN, hIk, hpost⟩ := hYv
      have hIk0 := hIk
      rw [hI'] at hIk
      obtain ⟨osb, rfl, hIk⟩ := hIk
      have gk := good k _ hIk0
      have gkb := hI k osb hIk
      have in2 : ∀ m, isIn os1 m = true → E2 m ≠ none := fun m hm => by
        rw [← gk.same m] at hm
        cases hx : lookO (recd (.loop (rec .ready none)) osb) m with
        | none => simp [isIn, hx] at hm
        | some x => have := hheld.obj m; rw [hx] at this; exact objOk_some this
      have same2 : ∀ m e, Eh m = some e → e.fix = true → E2 m = some e := fun m e he hfx => by
        rcases hsince.hist m e he hfx with h | h
        · exact absurd h (in2 m (EhIn m e he))
        · exact h
      have hEl2 : E2 1999999 = some (.op l) := same2 _ _ hEl rfl
      have hob := hheld.obj 1999999
      rw [lookO_recd, if_pos rfl] at hob
      obtain ⟨b, j1, _, j3, _, _⟩ := hob
      rw [hEl2] at j1
      cases j1
      have hsz : vs2.toArray.size = cps.size := by have := rvs_length hrvs; rw [hlen] at this; simpa using this
      have hyr := run_yield (P := c.P) (args := vs2.toArray) j3 (by rw [hrec]; exact hsz)
      rw [hrec] at hyr
      refine ⟨l, hyv, fn, _, cx, cy, hyr, roundIn_of_wpIn trivial ?_⟩
      clear hyr
      -- the round's own frame
      obtain ⟨cr, hcr⟩ : ∃ cr : Ctx, cr = ⟨c.P, w2, D2, c.n, ownE E2, E2, noY, some l⟩ := ⟨_, rfl⟩
      have hFr : cr.F = Fence.wide.inRound l := by rw [hcr]; rfl
      have fixEh : ∀ m e, Eh m = some e → e.fix = true := fun m e he => by
        obtain ⟨x, e', b, _, q2, _, _, q5, _⟩ := hsh.given hgv1 (EhIn m e he)
        rw [hEh] at he; rw [he] at q2; cases q2; exact q5
      have hlat : Later W1 Dh Eh w2 D2 E2 := by
        refine ⟨hsince.up, fun b o v hd hv => ?_, fun m b sh he => same2 m _ he rfl, fun m blk l he => ?_⟩
        · have hblk : w2.heap[b]? = W1.heap[b]? := hsince.unch.block b fun hm => by
            rcases hm with hm | hm
            · exact absurd (hsh.live b o hd) (Nat.not_lt.2 hm)
            · simp only at hm
              rw [hEh] at hm
              obtain ⟨m, e, _, _, _, _, _, h5, _⟩ := hsh.given_own hgv1 hm
              exact h5 o hd
          rw [World.cell?_of_block hblk]; exact hv
        · exact absurd (fixEh m _ he) (by simp [Ent.fix])
      have hslots : slotsOk ρ (isIn os1) ts tsR := by
        have : ∀ tsR : List (Nat × AV), slotsOk ρ (isIn osb0) ts tsR → slotsOk ρ (isIn os1) ts tsR := by
          intro tsR
          induction tsR with
          | nil => exact fun h => h
          | cons q r ih =>
            intro h
            obtain ⟨h1, h2, h3⟩ := h
            exact ⟨h1, only_mono (fun n hn => by rw [hos1, isIn_recd, hn]; simp) _ h2, ih h3⟩
        exact this tsR hts
      have hsr : SimW cr (mkA tsR (recd (.loop (rec .ready none)) osb)) { tmps := a.tmps, defers := [] } w2 D2 E2 := by
        rw [hcr]
        refine ⟨hs.sz, ⟨[], rfl, .nil, fun _ h => by simp at h⟩, fun t => ?_, Kept.refl _ _, fun _ _ h _ => h, hlive, fun m => (hheld.obj m).mine fun e b he hb => .inr ⟨m, e, he, hb⟩, hheld.sep, fun _ _ h _ => .inr h, fun m hm => ?_, fun _ _ h => h, fun _ _ _ _ h => h.elim⟩
        · rcases slotsOk_get hslots t with h | ⟨h1, h2⟩
          · simp only [mkA]; rw [h]; simp [rv]
          · have h3 := hsh.tm t
            rw [ha1] at h3
            simp only [mkA] at h3 ⊢
            rw [h1] at h3
            have h4 := (rv.ren (w := W1) (D := Dh) (p := isIn os1) (ρ := rnm ρ) (E := Eh) (E' := E1) (fun n hn => by rw [hEh]; simp only [hE, hn, if_true]) h2).1 h3
            exact rv.later hlat h4
        · have hmi : isIn os1 m = true := by
            rw [← gk.same m]
            have := hheld.obj m
            cases hx : lookO (recd (.loop (rec .ready none)) osb) m with
            | none => rw [hx] at this; exact absurd this hm
            | some x => simp [isIn, hx]
          have := gk.great m hmi
          exact ⟨Nat.le_trans hn6 this, this⟩
      have hsp := SimW.puts cps.toList vs2 (item k) tsR _ hsr (fun p hp => by rw [hcr]; have := List.all_eq_true.1 hpn p hp; simpa using this) hrvs (by have := hsz; simpa using this.symm)
      have htm : (cps.zip vs2.toArray).foldl (fun t (q : Tmp × Value) => t.setIfInBounds q.1 q.2) a.tmps = (cps.toList.zip vs2).foldl (fun t q => t.setIfInBounds q.1 q.2) a.tmps := by
        rw [← Array.foldl_toList]; simp
      have hx := hround k osb hkN hIk w2 D2 E2 l (.loop (rec .ready none)) (.loop { rec .ready none with state := .busy }) 
      rw [← hcr] at hx
      have hx1 := hx cx (by rw [hcr]; exact hcx) _ w2 ⟨D2, E2, hsp⟩
      rw [hFr] at hx1
      simp only [← htm] at hx1
      rw [hcr] at hx1
      refine wpIn_mono hx1 ?_
      rintro e ax wx ⟨B, hq, hsx⟩
      rw [← hcr] at hq hsx
      cases e <;> simp only [thenQ] at hq <;> try exact hq.elim
      simp only [Exit.then]
      obtain ⟨hB1, hB2⟩ := hq
      obtain ⟨Dx, Ex, hsx⟩ := hsx
      have hElx : Ex 1999999 = some (.op l) := by
        have ho := hsx.obj 1999999
        rw [hB1] at ho
        rcases hsx.hist 1999999 _ (by rw [hcr]; exact hEl2) rfl with h | h
        · exact absurd h (objOk_some ho)
        · exact h
      have hLx : wx.heap[l]? = some (.loop (rec .ready none)) := by
        have ho := hsx.obj 1999999
        rw [hB1] at ho
        obtain ⟨b, k1, _, k3, _⟩ := ho
        rw [hElx] at k1; cases k1; exact k3
      refine ⟨_, run_beginRound hLx (by rw [hrec]), ?_⟩
      have hsb := hsx.setOpq (o' := .loop { rec .ready none with state := .busy }) hB1 hElx rfl
      have hy1 := hB2 cy (by rw [hcr]; exact hcy) _ _ ⟨Dx, Ex, hsb⟩
      rw [hFr] at hy1
      rw [hcr] at hy1
      refine wpIn_mono hy1 ?_
      rintro e a3 w3 ⟨A3, hq3, D3, E3, hs3⟩
      rw [← hcr] at hs3
      -- the end of the round
      have fin : ∀ (os : List (Nat × AO)) (jump : Option Code), Backs (.loop { rec .ready none with state := .busy }) A3 os → (post' (.bool jump.isNone) (recd (.loop (rec (if jump.isNone then .ready else .done) jump)) os)) →
          ∃ v w', (Instr.endRound l jump).run c.P w3 = .ok v w' ∧ (fun e w' => ∃ v D' E' r os', e = Ending.returned v ∧ post' r os' ∧ rv w' D' E' r v ∧ HeldO (fun b => w2.heap.size ≤ b ∨ ownE E2 b) w' D' E' (lookO os') ∧
            Kept (fun b => w2.heap.size ≤ b ∨ ownE E2 b) w2 w' ∧ (∀ b o, D2 b o → D' b o) ∧ (∀ b o, D' b o → b < w'.heap.size) ∧ (∀ b o, D' b o → b < w2.heap.size → ¬ ownE E2 b → D2 b o) ∧
            ∀ n e, E2 n = some e → e.fix = true → isIn os' n = true → E' n = some e) (.returned v) w' := fun os jump hbk hp => by
        have hA3 : A3.o 1999999 = some (.opq (.loop { rec .ready none with state := .busy })) := (hbk 1999999 _ (by rw [lookO_recd, if_pos rfl])).1
        have hEl3 : E3 1999999 = some (.op l) := by
          have ho := hs3.obj 1999999
          rw [hA3] at ho
          rcases hs3.hist 1999999 _ (by rw [hcr]; exact hEl2) rfl with h | h
          · exact absurd h (objOk_some ho)
          · exact h
        have hL3 : w3.heap[l]? = some (.loop { rec .ready none with state := .busy }) := by
          have ho := hs3.obj 1999999
          rw [hA3] at ho
          obtain ⟨b, k1, _, k3, _⟩ := ho
          rw [hEl3] at k1; cases k1; exact k3
        have hend := run_endRound (P := c.P) jump hL3
        have erec : ({ rec .ready none with state := if jump.isNone then LoopState.ready else .done, pending := jump } : Loop) = rec (if jump.isNone then .ready else .done) jump := by rw [hrec]
        have hend' : (Instr.endRound l jump).run c.P w3 = .ok (.bool jump.isNone) (w3.putObj l (.loop (rec (if jump.isNone then .ready else .done) jump))) := by
          rw [hend]; rw [hrec]
        have hs4 := hs3.setOpq (o' := .loop (rec (if jump.isNone then .ready else .done) jump)) hA3 hEl3 rfl
        rw [hcr] at hs4
        obtain ⟨D', E', _, _, _, q1, q2, q3, q4, q5, q6⟩ := hs4.leave0 (held_backs hbk _)
        exact ⟨_, _, hend', _, D', E', .bool jump.isNone, _, rfl, hp, ⟨[.bool jump.isNone], by simp [isPack, AV.isAgg], by simp [rc]⟩, q1, q2, q3, q4, q5, q6⟩
      cases e with
      | normal =>
        obtain ⟨os, hbk, hin⟩ := hq3
        exact fin os none hbk (hpost _ _ (.inl ⟨rfl, by rw [hI']; exact ⟨os, rfl, hin⟩⟩))
      | ret =>
        obtain ⟨os, hbk, hin⟩ := hq3
        exact fin os (some .ret) hbk (hpost _ _ (.inr ⟨rfl, by rw [hIx']; exact ⟨none, os, rfl, hin⟩⟩))
      | exit id =>
        obtain ⟨os, hbk, hin⟩ := hq3
        exact fin os (some (.exit id)) hbk (hpost _ _ (.inr ⟨rfl, by rw [hIx']; exact ⟨some id, os, rfl, hin⟩⟩))
      | goto t => exact hq3.elim
      | panic ch => exact hq3.elim
      | outgrown => exact hq3.elim
    -- the call
    have hargs : All2 (rv W1 D E1) (.raw yv :: caps) (yv :: vs) := by
      exact .cons ⟨[yv], by simp [isPack, AV.isAgg], by rw [hyv]; exact ⟨rfl, rfl⟩⟩ (rvs_all2 (hup caps vs hvs))
    have hus := hand.use (ρ := ρ) hs1 false (fun h => h.mono) ⟨(fun h => by cases h), fun _ => by rw [← hDh, ← hEh]; exact hyok⟩ hgv1 (argsOk_closed _ (by simp [AV.closeds, AV.closed, hcl]))
      (fun r os' hp => by
        have gg : GoodO os1 os' := by
          rcases hp.2 with h | h
          · exact good _ _ h
          · exact goodx _ h
        refine ⟨fun m x hx => ⟨(gg.ok m x hx).1, (gg.ok m x hx).2, fun h => by cases h⟩, fun m m' h1 h2 => hgv1.inj m m' (by rw [← gg.same]; exact h1) (by rw [← gg.same]; exact h2), fun m hm => by rw [gg.same]; exact hm, fun m h1 h2 => (by rw [gg.same, h2] at h1; cases h1), (by rw [hp.1]; simp [AV.only, AV.onlys]), fun h => by cases h⟩) hargs
    have ecl : #[yv] ++ vs.toArray = (yv :: vs).toArray := by simp
    rw [ecl]
    refine CallsIn.mono (callsIn_wide.2 hus) ?_
    rintro e w3 ⟨v, r, os', D2, E2, rfl, hp, hs2, _, hE2⟩
    have key : ∀ (o3 : Obj) (osb : List (Nat × AO)), os' = recd o3 osb → isRec o3 = true → E2 999999 = some (.op l) ∧ w3.heap[l]? = some o3 ∧ ∀ o4, isRec o4 = true → Sim c (mkA ts (renO ρ osb ++ os0)) a1 (w3.putObj l o4) := fun o3 osb he h3 => by
      subst he
      have hn2 : E2 999999 = some (.op l) := by
        have := hE2 1999999 (.op l) (by rw [← hEh]; exact hEl) rfl (by rw [isIn_recd]; simp)
        rwa [hρ] at this
      have eos : renO ρ (recd o3 osb) = (999999, .opq o3) :: renO ρ osb := by simp only [recd, renO, List.map_cons, hρ, AO.ren]
      rw [eos] at hs2
      have ha : (mkA ts ((999999, AO.opq o3) :: renO ρ osb ++ (999999, .opq (.loop (rec .ready none))) :: os0)).o 999999 = some (.opq o3) := by simp [mkA, lookO]
      have hgb : ∀ m, isIn osb m = true → rnm ρ m ≠ 999999 := fun m hm e => by
        have h5 : isIn (recd o3 osb) m = true := by rw [isIn_recd, hm]; simp
        have g5 : GoodO os1 (recd o3 osb) := by
          rcases hp.2 with h | h
          · exact good _ _ h
          · exact goodx _ h
        have h6 := hgv1.inj m 1999999 (by rw [← g5.same]; exact h5) isrec (by rw [hρ]; exact e)
        subst h6
        have h7 : GoodO osb0 osb := by
          rcases hp.2 with h | h
          · rw [hI'] at h; obtain ⟨osb', h8, h9⟩ := h
            simp only [recd, List.cons.injEq] at h8
            rw [h8.2]; exact hI _ _ h9
          · rw [hIx'] at h; obtain ⟨e, osb', h8, h9⟩ := h
            simp only [recd, List.cons.injEq] at h8
            rw [h8.2]; exact hIx _ _ h9
        rw [h7.same, h19] at hm; cases hm
      refine ⟨hn2, ?_, fun o4 h4 => ?_⟩
      · have ho := hs2.obj 999999
        rw [ha] at ho
        obtain ⟨b, k1, _, k3, _⟩ := ho
        rw [hn2] at k1; cases k1; exact k3
      · have h5 := (hs2.setOpq (o' := o4) ha hn2 h4).dropOpq hn2
        have hst : (⟨((mkA ts ((999999, AO.opq o3) :: renO ρ osb ++ (999999, .opq (.loop (rec .ready none))) :: os0)).setO 999999 (.opq o4)).t, fun m => if m = 999999 then none else
            ((mkA ts ((999999, AO.opq o3) :: renO ρ osb ++ (999999, .opq (.loop (rec .ready none))) :: os0)).setO 999999 (.opq o4)).o m⟩ : AState) = mkA ts (renO ρ osb ++ os0) := by
          simp only [mkA, AState.setO]
          congr 1
          funext m
          by_cases hm : m = 999999
          · subst hm
            simp only [if_true, lookO_renO]
            cases hq : pre ρ osb 999999 with
            | none => exact hfree.symm
            | some k => exact absurd (pre_some hq).2 (hgb k (pre_some hq).1)
          · simp only [if_neg hm, List.cons_append, lookO, lookO_renO]
        rw [hst] at h5
        exact ⟨D2, _, h5⟩
    rcases hp.2 with h | h
    · rw [hI'] at h
      obtain ⟨osb, he, hin⟩ := h
      obtain ⟨k1, k2, k3⟩ := key _ osb he rfl
      refine ⟨none, _, (by have := run_endLoop (P := c.P) k2 (by rw [hrec]; simp); rw [hrec] at this; exact this), _, hdone osb hin, ?_⟩
      have := k3 (.loop { rec .ready none with state := .exhausted }) rfl
      rw [ha1] at this
      rw [hrec] at this
      exact this
    · rw [hIx'] at h
      obtain ⟨e, osb, he, hin⟩ := h
      obtain ⟨k1, k2, k3⟩ := key _ osb he rfl
      refine ⟨some (jumpOf e), _, (by have := run_endLoop (P := c.P) k2 (by rw [hrec]; simp); rw [hrec] at this; exact this), ?_⟩
      have := k3 (.loop { rec .done (some (jumpOf e)) with state := .exhausted }) rfl
      rw [ha1] at this
      rw [hrec] at this
      have hq : liftQ c Q (exitOf e) { a with defers := { target := .collected w.heap.size, args := #[] } :: a.defers } _ := ⟨_, hexit e osb hin, this⟩
      cases e with
      | none => exact wpIn_ret hq
      | some id => exact wpIn_exit hq
end
end Go.Abs

/-
  THE ABSTRACT LAYER, 23: lemmas for iterators: what a call of yield leaves of the iterator's own state. Over any program.
-/
namespace Go.Abs
open Go Go.RowKit
open Enc (enc)
mutual
theorem ren_id {ρ : Nat → Nat} (h : ∀ n, ρ n = n) : ∀ x : AV, x.ren ρ = x
  | .agg fs | .tuple fs => by simp only [AV.ren]; rw [rens_id h fs]
  | .slice _ es => by simp only [AV.ren]; rw [rens_id h es]
  | .ref x => by simp only [AV.ren]; rw [ren_id h x]
  | .func _ caps => by simp only [AV.ren]; rw [rens_id h caps]
  | .iface _ v => by simp only [AV.ren]; rw [ren_id h v]
  | .ptr _ _ | .own _ _ | .view _ _ _ _ _ => by simp only [AV.ren, h]
  | .bool _ | .int _ _ | .str _ | .nilp | .nilf | .nili | .raw _ | .nils _ | .c0 _ | .undef | .top => by simp only [AV.ren]
theorem rens_id {ρ : Nat → Nat} (h : ∀ n, ρ n = n) : ∀ xs : List AV, AV.rens ρ xs = xs
  | [] => rfl
  | x :: xs => by simp only [AV.rens]; rw [ren_id h x, rens_id h xs]
end
theorem AO.ren_id {ρ : Nat → Nat} (h : ∀ n, ρ n = n) : ∀ x : AO, x.ren ρ = x
  | .box x => by simp only [AO.ren, Abs.ren_id h]
  | .row _ _ es => by simp only [AO.ren, rens_id h]
  | .opq _ => rfl
theorem renO_id (os : List (Nat × AO)) : renO [] os = os := by
  simp only [renO]
  have : (fun q : Nat × AO => (rnm [] q.1, q.2.ren (rnm []))) = id := by
    funext q
    rw [AO.ren_id (ρ := rnm []) (fun n => rfl)]; rfl
  rw [this, List.map_id]
theorem lookO_app (a b : List (Nat × AO)) (n : Nat) : lookO (a ++ b) n = match lookO a n with
    | some x => some x
    | none => lookO b n := by
  induction a with
  | nil => rfl
  | cons q a ih =>
    obtain ⟨k, v⟩ := q
    simp only [List.cons_append, lookO]
    split
    · rfl
    · exact ih
theorem GoodO.none {os os' : List (Nat × AO)} (h : GoodO os os') {n : Nat} (hn : n < 1000000) : lookO os' n = none := by
  cases hx : lookO os' n with
  | none => rfl
  | some x =>
    have h1 : isIn os' n = true := by simp [isIn, hx]
    rw [h.same] at h1
    exact absurd (h.great n h1) (by omega)
/-- Slots left out; objects in another order. -/
theorem Sub.slots {ts ts' : List (Nat × AV)} {os os' : List (Nat × AO)} (h1 : subT ts ts') (h2 : ∀ n, lookO os n = lookO os' n) : Sub (mkA ts os) (mkA ts' os') := by
  have e : mkA ts os = mkA ts os' := by
    simp only [mkA]; congr 1; funext n; exact h2 n
  rw [e]
  rintro c a w ⟨D, E, hs⟩
  refine ⟨D, E, hs.sz, hs.defs, fun t => ?_, hs.unch, hs.dom, hs.live, hs.obj, hs.sep, hs.hist, hs.nam, hs.up, hs.yok⟩
  rcases subT_get h1 t with h | h
  · simp only [mkA]; rw [h]; simp [rv]
  · have := hs.tm t
    simp only [mkA] at *
    rw [h]; exact this
/-- The iterator's own objects stay, the others are as the round has left them. -/
theorem back_eq {os osk os2 ow : List (Nat × AO)} {ts : List (Nat × AV)} (h1 : GoodO os osk) (h2 : GoodO os os2) (how : ∀ m, isIn ow m = true → m < 1000000) : mkA ts (renO [] os2 ++ (ow ++ osk)) = mkA ts (ow ++ os2) := by
  simp only [mkA, renO_id]
  congr 1
  funext n
  simp only [lookO_app]
  cases hw : lookO ow n with
  | none =>
    simp only
    cases h3 : lookO os2 n with
    | some x => rfl
    | none =>
      simp only
      cases h4 : lookO osk n with
      | none => rfl
      | some x =>
        have h5 : isIn osk n = true := by simp [isIn, h4]
        rw [h1.same, ← h2.same] at h5
        simp [isIn, h3] at h5
  | some x =>
    simp only
    rw [h2.none (how n (by simp [isIn, hw]))]
theorem Gvn.good {os osk ow : List (Nat × AO)} (h1 : GoodO os osk) (how : ∀ m, isIn ow m = true → m < 1000000) : Gvn [] osk (ow ++ osk) := by
  refine ⟨fun m x hx => ?_, fun m m' _ _ h => h⟩
  have hm : isIn osk m = true := by simp [isIn, hx]
  have hg := h1.great m (by rw [← h1.same]; exact hm)
  obtain ⟨k1, k2⟩ := h1.ok m x hx
  refine ⟨?_, k1, k2⟩
  rw [AO.ren_id (ρ := rnm []) (fun n => rfl)]
  simp only [rnm, lookO_app]
  cases hw : lookO ow m with
  | none => exact hx
  | some y => have := how m (by simp [isIn, hw]); omega
theorem Bck.good {os osk os2 os0 : List (Nat × AO)} {r : AV} (h1 : GoodO os osk) (h2 : GoodO os os2) (hr : r.closed = true) : Bck false [] osk os0 r os2 := by
  refine ⟨fun m x hx => ⟨(h2.ok m x hx).1, (h2.ok m x hx).2, fun h => by cases h⟩, fun m m' _ _ h => h, fun m hm => by rw [h2.same, ← h1.same]; exact hm, fun m h3 h4 => ?_, only_closed _ r hr, fun h => by cases h⟩
  rw [h2.same, ← h1.same, h4] at h3; cases h3
/-- A call of yield, by an iterator with objects of its own. -/
theorem WP.yields {P : Program} {Y : Value → List AV → List (Nat × AO) → Post → Prop} {K : AState → Prop} {v : Value} {vs : List AV} {dst : Option Nat} {rest : List G} {ts : List (Nat × AV)} {os osk ow : List (Nat × AO)} {In Ix : List (Nat × AO) → Prop}
    (hY : Y v vs osk (fun r os2 => (r = .bool true ∧ In os2) ∨ (r = .bool false ∧ Ix os2))) (hk : GoodO os osk) (hi : ∀ os', In os' → GoodO os os') (hx : ∀ os', Ix os' → GoodO os os') (hcl : AV.closeds vs = true) (how : ∀ m, isIn ow m = true → m < 1000000)
    (h1 : ∀ os2, In os2 → WP P Y false K (aops rest ((mkA ts (ow ++ os2)).putO dst (.bool true)))) (h2 : ∀ os2, Ix os2 → WP P Y false K (aops rest ((mkA ts (ow ++ os2)).putO dst (.bool false)))) :
    WP P Y false K (.callr v vs dst rest (mkA ts (ow ++ osk))) := by
  refine .yld osk vs _ rfl hY (Gvn.good hk how) (argsOk_closed vs hcl) ?_ ?_
  · rintro r os' (⟨rfl, h⟩ | ⟨rfl, h⟩)
    · exact Bck.good hk (hi _ h) rfl
    · exact Bck.good hk (hx _ h) rfl
  · rintro r os' (⟨rfl, h⟩ | ⟨rfl, h⟩)
    · rw [back_eq hk (hi _ h) how]; exact h1 os' h
    · rw [back_eq hk (hx _ h) how]; exact h2 os' h
theorem callvR_raw (A : AState) (d : Option Nat) (args : List AV) (rest : List G) (v : Value) : callvR A d args rest (.raw v) = .callr v args d rest A := rfl
end Go.Abs

/-
  THE ABSTRACT LAYER, 24: a slice of the frame's own, taken as data; a nil slice taken as an empty one. Over any program.
-/
namespace Go.Abs
open Go Go.RowKit
open Enc (enc)
theorem Sub.free {ts : List (Nat × AV)} {os0 : List (Nat × AO)} (ns : List Nat) (d : Nat) {x y : AV} (hd : look ts d = x) (h : fin true (mkA ts (keepO ns os0)) x = some y) (ho : onlyO (fun n => !ns.contains n) (dropO ns os0)) :
    Sub (mkA ts os0) (mkA ((d, y) :: fgt ns ts) (dropO ns os0)) := by
  rintro c a w ⟨D, E, hs⟩
  obtain ⟨D1, E1, hs1, hw⟩ := hs.freeze ns ho
  have hu : Up (mkA ts (keepO ns os0)) (mkA ts os0) := fun n z hz => by
    simp only [mkA, lookO_keep] at hz ⊢
    split at hz
    · exact hz
    · cases hz
  have hx : x.isVal = true := by cases x <;> first | rfl | simp [fin] at h
  have hv := hs.tm d
  simp only [mkA] at hv
  rw [hd] at hv
  have h1 : rvs w D E [x] [a.tmps.getD d undef] := rvs_of [x] _ (.cons hv .nil) (by intro z hz; simp only [List.mem_singleton] at hz; subst hz; exact hx)
  have h2 := fin_rvs (E' := E1) hs hu hw [x] [y] _ h1 (by simp only [fins, h])
  have h3 : rv w D1 E1 y (a.tmps.getD d undef) := by
    simp only [rvs] at h2
    obtain ⟨v', rest, cs, e, k1, k2, _⟩ := h2
    simp only [List.cons.injEq] at e
    obtain ⟨e1, _⟩ := e
    rw [e1]
    exact mk_val k1 k2
  refine ⟨D1, E1, hs1.sz, hs1.defs, fun t => ?_, hs1.unch, hs1.dom, hs1.live, hs1.obj, hs1.sep, hs1.hist, hs1.nam, hs1.up, hs1.yok⟩
  simp only [mkA, look]
  split
  · rename_i ht; subst ht; exact h3
  · exact hs1.tm t
theorem Sub.freeL {ts ts' : List (Nat × AV)} {os0 os' : List (Nat × AO)} (ns : List Nat) (d : Nat) {x y : AV} (hd : look ts d = x) (h : fin true (mkA ts (keepO ns os0)) x = some y) (ho : onlyO (fun n => !ns.contains n) (dropO ns os0))
    (h1 : subT ((d, y) :: fgt ns ts) ts') (h2 : subO (dropO ns os0) os') (h3 : onlyT (isIn os') ts') (h4 : onlyO (isIn os') os') : Sub (mkA ts os0) (mkA ts' os') :=
  (Sub.free ns d hd h ho).trans (Sub.of_lists h1 h2 h3 h4)
/-- A part of the code, walked for itself. -/
theorem AW.via {c : Ctx} {Q : Exit → AState → Prop} {A : AState} {x : AC} (T : AState) (h1 : AW c x (thenQ (fun B => Sub B T) fun _ _ => False) A) (h2 : ∀ B, Sub B T → Q .normal B) : AW c x Q A :=
  h1.mono fun e B hq => by
    cases e <;> simp only [thenQ] at hq <;> first
      | exact h2 B hq
      | exact hq.elim
end Go.Abs

/-
  THE ABSTRACT LAYER, 25: arguments as the statements read them, taken as data. Over any program.
-/
namespace Go.Abs
open Go Go.RowKit
open Enc (enc)
/-- What is there may be read. -/
def allD (w : World) : Dom := fun b _ => b < w.heap.size
/-- What reads as this type is such data. -/
structure Opens (P : Program) (t : TypeId) (α : Type) [Enc α] : Prop where
  cells : P.cellsOf t = Enc.sz α
  pos : 0 < Enc.sz α
  opn : ∀ {H : Type} {enc0 : TypeId × Value → H} {w : World} {fuel : Nat} {cs : List Value} {x : DataW H × List MemPlace}, DataW.trod enc0 P w 0 (fun _ => true) true fuel t cs = some x → ∃ a : α, rc w (allD w) E0 (enc a) cs
theorem opens_int {P : Program} {t : TypeId} (ht : P.underlying t = some (.int .i64)) (hc : P.cellsOf t = 1) : Opens P t Int :=
  ⟨hc, by decide, fun h => by
    obtain ⟨n, rfl, _, hw⟩ := DataW.trod_int ht h
    refine ⟨n, ?_⟩
    rw [e_int, rc]
    simp only [Lit.wf, Bool.and_eq_true, decide_eq_true_eq] at hw
    exact ⟨rfl, hw.1, hw.2⟩⟩
theorem chunks {α : Type} [Enc α] {w : World} {D : Dom} (c : Nat) : ∀ (n : Nat) (cs : List Value), cs.length = n * c → (∀ i, i < n → ∃ a : α, rc w D E0 (enc a) ((cs.drop (i * c)).take c)) → ∃ l : List α, l.length = n ∧ rcs w D E0 (l.map enc) cs
  | 0, cs, hl, _ => ⟨[], rfl, by simp only [Nat.zero_mul, List.length_eq_zero_iff] at hl; subst hl; simp [rcs]⟩
  | n + 1, cs, hl, h => by
    obtain ⟨a, ha⟩ := h 0 (by omega)
    simp only [Nat.zero_mul, List.drop_zero] at ha
    obtain ⟨l, h1, h2⟩ := chunks c n (cs.drop c) (by rw [List.length_drop, hl, Nat.succ_mul]; omega) (fun i hi => by
      obtain ⟨b, hb⟩ := h (i + 1) (by omega)
      refine ⟨b, ?_⟩
      rw [List.drop_drop]
      rwa [Nat.succ_mul, Nat.add_comm] at hb)
    refine ⟨a :: l, by simp [h1], ?_⟩
    simp only [List.map_cons, rcs]
    exact ⟨cs.take c, cs.drop c, (List.take_append_drop c cs).symm, ha, h2⟩
theorem trod_arr {H : Type} {enc0 : TypeId × Value → H} {P : Program} {w : World} {base : Nat} {spare : Nat → Bool} {held : Bool} {fuel n : Nat} {t e : TypeId} {cs : List Value} {x : DataW H × List MemPlace} (ht : P.underlying t = some (.array n e)) (h : DataW.trod enc0 P w base spare held fuel t cs = some x) :
    ∃ (xs : List (DataW H × List MemPlace)) (m : Nat), cs.length = P.cellsOf t ∧ xs.length = n ∧ ∀ (i : Nat), i < n → DataW.trod enc0 P w base spare held m e ((cs.drop (i * P.cellsOf e)).take (P.cellsOf e)) = xs[i]? := by
  cases fuel with
  | zero => simp [DataW.trod] at h
  | succ m =>
    unfold DataW.trod at h
    rw [ht] at h
    split at h <;> simp_all
    obtain ⟨hl, xs, hp, hd⟩ := h
    exact ⟨xs, by simpa using mapM_some_length hp, m, fun i hi => mapM_some_get hp i i (by simp [hi])⟩
theorem opens_arr {P : Program} {t e : TypeId} {n : Nat} {α : Type} [Enc α] (ht : P.underlying t = some (.array n e)) (he : Opens P e α) (hc : P.cellsOf t = n * Enc.sz α) (hn : 0 < n) : Opens P t (Arr n α) :=
  ⟨hc, Nat.mul_pos hn he.pos, fun {H enc0 w fuel cs x} h => by
    obtain ⟨xs, m, hl, hx, hp⟩ := trod_arr ht h
    obtain ⟨l, h1, h2⟩ := chunks (α := α) (w := w) (D := allD w) (Enc.sz α) n cs (by rw [hl, hc]) (fun i hi => by
      have h3 := hp i hi
      rw [he.cells, List.getElem?_eq_getElem (by omega)] at h3
      exact he.opn h3)
    refine ⟨⟨l, h1⟩, ?_⟩
    show rc w (allD w) E0 (.agg (l.map enc)) cs
    simp only [rc]
    exact h2⟩
theorem addr_add_add (a : Addr) (i j : Nat) : (a.add i).add j = a.add (i + j) := by
  unfold Addr.add
  by_cases hi : i = 0 <;> by_cases hj : j = 0 <;> simp [hi, hj, Nat.add_assoc]
theorem opens_list {P : Program} {t e : TypeId} {α : Type} [Enc α] (ht : P.underlying t = some (.slice e)) (he : Opens P e α) (hc : P.cellsOf t = 1) : Opens P t (List α) :=
  ⟨hc, by rw [e_szList]; exact Nat.one_pos, fun {H enc0 w fuel cs x} h => by
    rcases DataW.trod_slice ht h with ⟨rfl, _⟩ | ⟨a, len, cap, elems, rest, n, _, rfl, _, hb, hl, hm, hlen, hel, _⟩
    · refine ⟨[], ?_⟩
      simp only [e_list, List.map_nil]
      rw [rc]
      exact ⟨none, 0, rfl, Nat.le_refl _, by decide, .inl rfl, by simp⟩
    · have key : ∀ k, k ≤ len → ∃ (l : List α) (cs' : List Value), l.length = k ∧ rcs w (allD w) E0 (l.map enc) cs' ∧ cs'.length = k * Enc.sz α ∧ ∀ j v, cs'[j]? = some v → w.cell? (a.add j) = some v := by
        intro k
        induction k with
        | zero => exact fun _ => ⟨[], [], rfl, by simp [rcs], by simp, by simp⟩
        | succ k ih =>
          intro hk
          obtain ⟨l, cs', h1, h2, h3, h4⟩ := ih (by omega)
          have h5 := hel k (by omega)
          have h6 : k < elems.length := by omega
          rw [List.getElem?_eq_getElem h6] at h5
          obtain ⟨ce, h7, h8⟩ := Option.bind_eq_some_iff.1 h5
          obtain ⟨y, hy⟩ := he.opn h8
          rw [he.cells] at h7
          obtain ⟨_, h9, h10⟩ := World.cells?_some h7
          refine ⟨l ++ [y], cs' ++ ce, by simp [h1], ?_, by rw [List.length_append, h3, h9, Nat.succ_mul], fun j v hj => ?_⟩
          · rw [List.map_append]
            refine rcs_append _ _ _ _ h2 ?_
            simp only [List.map_cons, List.map_nil, rcs]
            exact ⟨ce, [], by simp, hy, rfl⟩
          · rcases Nat.lt_or_ge j cs'.length with hlt | hge
            · rw [List.getElem?_append_left hlt] at hj
              exact h4 j v hj
            · rw [List.getElem?_append_right hge] at hj
              have hlt : j - cs'.length < Enc.sz α := by
                have := (List.getElem?_eq_some_iff.1 hj).1
                omega
              have := h10 (j - cs'.length) hlt
              rw [addr_add_add, ← h3, Nat.add_sub_cancel' hge] at this
              rw [this]; exact hj
      obtain ⟨l, cs', h1, h2, h3, h4⟩ := key len (Nat.le_refl _)
      refine ⟨l, ?_⟩
      simp only [e_list, rc, List.length_map]
      refine ⟨some a, cap, by rw [h1], by omega, hm, ?_, all_sizes l⟩
      by_cases hz : len = 0
      · left; have : l = [] := List.length_eq_zero_iff.1 (by omega); rw [this]; rfl
      right
      have hpos : 0 < cs'.length := by rw [h3]; exact Nat.mul_pos (Nat.pos_of_ne_zero hz) he.pos
      have h0 := h4 0 cs'[0] (List.getElem?_eq_getElem hpos)
      have hsp : a.spot = none := by
        simp only [Addr.add, if_true] at h0
        unfold World.cell? at h0
        split at h0
        · split at h0
          · cases h0
          · rename_i hs; cases hh : a.spot <;> simp_all
        · cases h0
      have ha : ∀ j, a.add j = ⟨a.block, a.off + j, none⟩ := fun j => by
        unfold Addr.add
        split
        · rename_i hj; subst hj; cases a; simp_all
        · rfl
      refine ⟨a.block, a.off, cs', by cases a; simp_all, fun j v hj => ?_, h2⟩
      have h5 := h4 j v hj
      rw [ha] at h5
      refine ⟨h5, ?_⟩
      show (⟨a.block, a.off + j, none⟩ : Addr).block < _
      exact World.block_lt_of_cell? w _ h5⟩
end Go.Abs

/-
  THE ABSTRACT LAYER, 26: structs among the arguments; from a law's contract to what a statement asks of it. Over any program.
-/
namespace Go.Abs
open Go Go.RowKit Go.ChangeShapes
open Enc (enc)
/-- The type is a struct with fields of these types at these places. -/
def isSt (P : Program) (t : TypeId) (l : List (TypeId × Nat)) : Bool := match P.underlying t with
  | some (.struct fs) => fs.toList.map (fun f => (f.type, f.offset)) == l
  | _ => false
def isAr (P : Program) (t : TypeId) (n : Nat) (e : TypeId) : Bool := match P.underlying t with
  | some (.array n' e') => n' == n && e' == e
  | _ => false
theorem isAr_spec {P : Program} {t : TypeId} {n : Nat} {e : TypeId} (h : isAr P t n e = true) : P.underlying t = some (.array n e) := by
  unfold isAr at h
  split at h
  · rename_i n' e' ht
    simp only [Bool.and_eq_true, beq_iff_eq] at h
    rw [ht, h.1, h.2]
  · cases h
theorem isSt_spec {P : Program} {t : TypeId} {l : List (TypeId × Nat)} (h : isSt P t l = true) : ∃ fs, P.underlying t = some (.struct fs) ∧ fs.toList.map (fun f => (f.type, f.offset)) = l := by
  unfold isSt at h
  split at h
  · rename_i fs ht
    exact ⟨fs, ht, by simpa using h⟩
  · cases h
theorem st_fields {H : Type} {enc0 : TypeId × Value → H} {P : Program} {w : World} {fuel : Nat} {t : TypeId} {l : List (TypeId × Nat)} {cs : List Value} {x : DataW H × List MemPlace} (ht : isSt P t l = true) (h : DataW.trod enc0 P w 0 (fun _ => true) true fuel t cs = some x) :
    cs.length = P.cellsOf t ∧ ∃ m : Nat, ∀ (i : Nat) (u : TypeId) (o : Nat), l[i]? = some (u, o) → ∃ y, DataW.trod enc0 P w 0 (fun _ => true) true m u ((cs.drop o).take (P.cellsOf u)) = some y := by
  obtain ⟨fs, h1, h2⟩ := isSt_spec ht
  obtain ⟨xs, m, _, _, h3, h4, h5⟩ := DataW.trod_struct h1 h
  refine ⟨h3, m, fun i u o hi => ?_⟩
  rw [← h2] at hi
  simp only [List.getElem?_map, Option.map_eq_some_iff, Prod.mk.injEq] at hi
  obtain ⟨f, hf, rfl, rfl⟩ := hi
  have hf' : fs[i]? = some f := by simpa using hf
  have h6 := h5 i f hf'
  have hlt : i < fs.size := (Array.getElem?_eq_some_iff.1 hf').1
  rw [List.getElem?_eq_getElem (by omega)] at h6
  exact ⟨_, h6⟩
section
variable {P : Program} {t : TypeId} {α β γ : Type} [Enc α] [Enc β] [Enc γ] {H : Type} {enc0 : TypeId × Value → H} {w : World} {fuel : Nat} {cs : List Value} {x : DataW H × List MemPlace}
theorem opens_st2 {u0 u1 : TypeId} (ht : isSt P t [(u0, 0), (u1, Enc.sz α)] = true) (h0 : Opens P u0 α) (h1 : Opens P u1 β) (hc : P.cellsOf t = Enc.sz α + Enc.sz β) (h : DataW.trod enc0 P w 0 (fun _ => true) true fuel t cs = some x) :
    ∃ (a : α) (b : β), rc w (allD w) E0 (.agg [enc a, enc b]) cs := by
  obtain ⟨hl, m, hf⟩ := st_fields ht h
  obtain ⟨y0, k0⟩ := hf 0 u0 0 rfl
  obtain ⟨y1, k1⟩ := hf 1 u1 (Enc.sz α) rfl
  obtain ⟨a, ha⟩ := h0.opn k0
  obtain ⟨b, hb⟩ := h1.opn k1
  rw [h0.cells, List.drop_zero] at ha
  rw [h1.cells, List.take_of_length_le (by rw [List.length_drop]; omega)] at hb
  refine ⟨a, b, ?_⟩
  simp only [rc, rcs]
  exact ⟨_, _, (List.take_append_drop (Enc.sz α) cs).symm, ha, cs.drop (Enc.sz α), [], by simp, hb, rfl⟩
theorem opens_st3 {u0 u1 u2 : TypeId} (ht : isSt P t [(u0, 0), (u1, Enc.sz α), (u2, Enc.sz α + Enc.sz β)] = true) (h0 : Opens P u0 α) (h1 : Opens P u1 β) (h2 : Opens P u2 γ) (hc : P.cellsOf t = Enc.sz α + Enc.sz β + Enc.sz γ) (h : DataW.trod enc0 P w 0 (fun _ => true) true fuel t cs = some x) :
    ∃ (a : α) (b : β) (c : γ), rc w (allD w) E0 (.agg [enc a, enc b, enc c]) cs := by
  obtain ⟨hl, m, hf⟩ := st_fields ht h
  obtain ⟨y0, k0⟩ := hf 0 u0 0 rfl
  obtain ⟨y1, k1⟩ := hf 1 u1 (Enc.sz α) rfl
  obtain ⟨y2, k2⟩ := hf 2 u2 (Enc.sz α + Enc.sz β) rfl
  obtain ⟨a, ha⟩ := h0.opn k0
  obtain ⟨b, hb⟩ := h1.opn k1
  obtain ⟨c, hcc⟩ := h2.opn k2
  rw [h0.cells, List.drop_zero] at ha
  rw [h1.cells] at hb
  rw [h2.cells, List.take_of_length_le (by rw [List.length_drop]; omega)] at hcc
  refine ⟨a, b, c, ?_⟩
  simp only [rc, rcs]
  refine ⟨_, _, (List.take_append_drop (Enc.sz α) cs).symm, ha, (cs.drop (Enc.sz α)).take (Enc.sz β), (cs.drop (Enc.sz α)).drop (Enc.sz β), (List.take_append_drop _ _).symm, hb, (cs.drop (Enc.sz α)).drop (Enc.sz β), [], by simp, ?_, rfl⟩
  rw [List.drop_drop]; exact hcc
/-- An argument that is a struct or an array. -/
theorem open_arg {base : Nat} {v : Value} {d : DataW H} {p : List MemPlace} (ho : Opens P t α) (hA : Enc.isA α = true) (hst : (match P.underlying t with | some (.struct _) | some (.array _ _) => true | _ => false) = true) (hv : Value.okWide P w .any base t v)
    (h : DataW.Trod enc0 P w 0 (fun _ => true) true t v d p) : ∃ (a : α) (cs : List Value), isPack (enc a) v cs ∧ rc w (allD w) E0 (enc a) cs := by
  obtain ⟨fuel, h⟩ := h
  have hagg : ∃ cs, v = .agg cs := by
    unfold Value.okWide at hv
    split at hst
    · rename_i fs ht; rw [ht] at hv; obtain ⟨cs, h1, _⟩ := hv; exact ⟨cs, h1⟩
    · rename_i n e ht; rw [ht] at hv; obtain ⟨cs, h1, _⟩ := hv; exact ⟨cs, h1⟩
    · cases hst
  obtain ⟨cs, rfl⟩ := hagg
  have e : (Value.agg cs).cells.toList = cs.toList := rfl
  rw [e] at h
  obtain ⟨a, ha⟩ := ho.opn h
  exact ⟨a, cs.toList, by simp [isPack, Enc.agg, hA], ha⟩
/-- An argument that is one cell. -/
theorem open_cell {base : Nat} {v : Value} {d : DataW H} {p : List MemPlace} (ho : Opens P t α) (hA : Enc.isA α = false) (hst : (match P.underlying t with | some (.slice _) | some (.int _) | some .bool => true | _ => false) = true) (hv : Value.okWide P w .any base t v)
    (h : DataW.Trod enc0 P w 0 (fun _ => true) true t v d p) : ∃ (a : α) (cs : List Value), isPack (enc a) v cs ∧ rc w (allD w) E0 (enc a) cs := by
  obtain ⟨fuel, h⟩ := h
  have hone : v.cells.toList = [v] := by
    unfold Value.okWide at hv
    split at hst
    · rename_i e ht; rw [ht] at hv; simp only [Cell.okWide, ht] at hv; cases v <;> simp_all [Cell.ok, Value.cells]
    · rename_i e ht; rw [ht] at hv; simp only [Cell.okWide, ht] at hv; cases v <;> simp_all [Cell.ok, Value.cells]
    · rename_i ht; rw [ht] at hv; simp only [Cell.okWide, ht] at hv; cases v <;> simp_all [Cell.ok, Value.cells]
    · cases hst
  rw [hone] at h
  obtain ⟨a, ha⟩ := ho.opn h
  exact ⟨a, [v], by simp [isPack, Enc.agg, hA], ha⟩
end
/-- As the kit's law of what is as it was, with less asked of what is frozen: of the places that were read. -/
theorem post_same {H : Type} {enc0 : TypeId × Value → H} {P : Program} {f : Func} {s : ChangeSpec} {apart fresh handsOn again : Bool} {W W' : World} {args : Array Value} {v : Value} {ds gs : List (DataW H)} {before pa pv : List MemPlace}
    (hW : DataW.Whole enc0 P f.params.toList s.vars apart W args.toList ds gs before)
    (hres : ∀ (b : Nat) (sp : Nat → Bool) (hd : Bool), DataW.TrodAll enc0 P W' b sp hd f.resultTypes.toList (v.resultList f.resultTypes.size) (s.fn H (ds ++ gs)).results [])
    (hargs : ∀ sp : Nat → Bool, (∀ p ∈ before, sp p.block = true) → DataW.TrodAll enc0 P W' 0 sp true f.params.toList args.toList (s.fn H (ds ++ gs)).args pa)
    (hvars : ∀ sp : Nat → Bool, (∀ p ∈ before, sp p.block = true) → DataW.TrodVars enc0 P W' sp s.vars (s.fn H (ds ++ gs)).vars pv)
    (hps : before = pa ++ pv) (hb : Below W.heap.size W W')
    (hok : ∀ (j : Nat) (t : TypeId) (r : Value), f.resultTypes[j]? = some t → (v.resultList f.resultTypes.size)[j]? = some r → Value.okWide P W' .any 0 t r) :
    s.post enc0 P f apart fresh handsOn again W args v W' := by
  have hlt : ∀ p ∈ before, p.block < W.heap.size := fun p hp => by simpa using hW.lt p hp
  have hold : ∀ p ∈ before, (fun b => decide (b < W.heap.size)) p.block = true := fun p hp => by simpa using hlt p hp
  refine ⟨ds, gs, before, [], pa, pv, hW, hres _ _ _, hargs _ hold, hvars _ hold, World.keptBut_mono (fun p hp => ⟨hp, ?_⟩) (hb.frame (· ∈ before)), fun _ => ?_⟩
  · rw [hps, List.mem_append] at hp
    exact Or.inr hp
  · obtain ⟨_, _, _, _, _, hz, hn⟩ := hW
    refine ⟨hok, _, _, ([] ++ pa) ++ pv, ⟨[] ++ pa, pv, trodAll_append (hargs _ (fun _ _ => rfl)) (hres _ _ _), hvars _ (fun _ _ => rfl), rfl, ?_, ?_⟩, ?_⟩
    · intro b off hp
      have hp' : MemPlace.cell b off ∈ before := by rw [hps]; simpa using hp
      rw [hb.frozen (p := ⟨b, off, none⟩) (hlt _ hp')]
      exact hz b off hp'
    · intro ha
      have := hn ha
      rw [hps] at this
      simpa using this
    · intro p hp _
      rw [hps]
      simpa using hp
/-- **From a law's contract to what its statement asks of a call.** -/
theorem law_post {P : Program} {f : FuncId} {fn : Func} {s : ChangeSpec} {H : Type} {enc0 : TypeId × Value → H} {W : World} {ds gs : List (DataW H)} {before : List MemPlace} {xs : List AV} {tb : TypeId} {v0 v1 v2 : Value} {t0 t1 t2 : TypeId} {d0 d1 d2 : DataW H} {p0 p1 p2 : List MemPlace} {again handsOn fresh : Bool}
    (hl : laidOutB P = true) (hpar : fn.params.toList = [t0, t1, t2]) (hds : ds = [d0, d1, d2]) (hgs : gs = []) (hbef : before = p0 ++ p1 ++ p2)
    (hvars : s.vars = []) (hfn : s.fn H [d0, d1, d2] = { results := [.lit (.bool true)], args := [d0, d1, d2] }) (hres : fn.resultTypes = #[tb]) (htb : P.underlying tb = some .bool)
    (hW : DataW.Whole enc0 P fn.params.toList s.vars false W #[v0, v1, v2].toList ds gs before)
    (h0 : DataW.Trod enc0 P W 0 (fun _ => true) true t0 v0 d0 p0) (h1 : DataW.Trod enc0 P W 0 (fun _ => true) true t1 v1 d1 p1) (h2 : DataW.Trod enc0 P W 0 (fun _ => true) true t2 v2 d2 p2)
    (hr : ∀ t ∈ [t0, t1, t2], P.readableRec t = true ∧ t < P.types.size)
    (hctr : Ctr P f xs (enc true)) (hv : rvs W (allD W) E0 xs [v0, v1, v2]) :
    Calls P f #[v0, v1, v2] W fun e W' => ∃ v, e = .returned v ∧ s.post enc0 P fn false fresh handsOn again W #[v0, v1, v2] v W' := by
  subst hds hgs
  refine (hctr.2 W (allD W) [v0, v1, v2] (fun _ _ h => h) hv).mono fun e W' ⟨v, D', he, hrv, hb, _, _⟩ => ⟨v, he, ?_⟩
  have hvb : v = .bool true := rv_bool hrv
  subst hvb
  have hlt : ∀ x ∈ before, x.block < W.heap.size := fun x hx => by simpa using hW.lt x hx
  rw [hbef] at hlt
  refine post_same (pa := p0 ++ (p1 ++ p2)) (pv := []) hW (fun _ _ _ => ?_) (fun sp hsp => ?_) (fun _ _ => ?_) (by rw [hbef]; simp) hb ?_
  · simp only [List.append_nil, hfn, hres]
    exact trodAll_mk1 (shut_bool htb true)
  · simp only [List.append_nil, hfn, hpar]
    rw [hbef] at hsp
    have st : ∀ {t : TypeId} {v : Value} {d : DataW H} {p : List MemPlace}, t ∈ [t0, t1, t2] → DataW.Trod enc0 P W 0 (fun _ => true) true t v d p → (∀ x ∈ p, x ∈ p0 ++ p1 ++ p2) → DataW.Trod enc0 P W' 0 sp true t v d p := fun ht h hp =>
      WideElems.Trod_stays hl (hr _ ht).1 (hr _ ht).2 h (fun x hx => hb.same (hlt x (hp x hx))) (fun x hx => hsp x (hp x hx))
    exact trodAll_mk3 (st (by simp) h0 fun x hx => by simp [hx]) (st (by simp) h1 fun x hx => by simp [hx]) (st (by simp) h2 fun x hx => by simp [hx])
  · simp only [List.append_nil, hfn, hvars]
    rfl
  · intro j t r hj hv'
    rw [hres] at hj hv'
    match j, hj, hv' with
    | 0, hj, hv' =>
      simp [Value.resultList] at hj hv'
      subst hj; subst hv'
      simp [Value.okWide, htb, Cell.okWide, Cell.ok]
end Go.Abs

/-
  THE ABSTRACT LAYER, 27: a slice among the arguments, and how long it may be. Over any program.
-/
namespace Go.Abs
open Go Go.RowKit Go.ChangeShapes
open Enc (enc)
/-- An argument that is a slice: as long as what is read. -/
theorem open_len {P : Program} {t e : TypeId} {α : Type} [Enc α] {H : Type} {enc0 : TypeId × Value → H} {w : World} {base : Nat} {v : Value} {d : DataW H} {p : List MemPlace} (ho : Opens P t (List α)) (hu : P.underlying t = some (.slice e)) (hv : Value.okWide P w .any base t v)
    (h : DataW.Trod enc0 P w 0 (fun _ => true) true t v d p) : ∃ l : List α, (∃ cs : List Value, isPack (enc l) v cs ∧ rc w (allD w) E0 (enc l) cs) ∧ (l.length = 0 ∨ ∃ elems spare, d = .slice elems spare ∧ elems.length = l.length) := by
  obtain ⟨l, cs, h1, h2⟩ := open_cell ho rfl (by rw [hu]) hv h
  refine ⟨l, ⟨cs, h1, h2⟩, ?_⟩
  have hcs : cs = [v] := by simpa [isPack, e_list, AV.isAgg] using h1
  subst hcs
  simp only [e_list, rc] at h2
  obtain ⟨a, cap, h3, _⟩ := h2
  simp only [List.cons.injEq, and_true, List.length_map] at h3
  subst h3
  obtain ⟨fuel, h⟩ := h
  have hc : (Value.slice a l.length cap).cells.toList = [Value.slice a l.length cap] := rfl
  rw [hc] at h
  rcases DataW.trod_slice hu h with ⟨h4, _⟩ | ⟨a', len, cap', elems, rest, n, _, h4, h5, _, _, _, hlen, _⟩
  · simp only [List.cons.injEq, Value.slice.injEq, and_true] at h4
    exact .inl h4.2.1
  · simp only [List.cons.injEq, Value.slice.injEq, and_true] at h4
    simp only [Prod.mk.injEq] at h5
    exact .inr ⟨_, _, h5.1, by rw [List.length_map, hlen, h4.2.1]⟩
theorem len_bound {H : Type} {P : Program} {ts : List TypeId} {ds : List (DataW H)} (hz : (DataW.weightsEach P ts ds).all (· ≤ reachBytes) = true) {j : Nat} {t e : TypeId} {d : DataW H} {n : Nat} (ht : ts[j]? = some t) (hd : ds[j]? = some d) (hu : P.underlying t = some (.slice e)) (hb : 0 < P.bytesOf e)
    (h : n = 0 ∨ ∃ elems spare, d = .slice elems spare ∧ elems.length = n) : n ≤ 140737488355328 := by
  rcases h with h | ⟨elems, spare, rfl, h⟩
  · omega
  · have h1 := sized_slice hz ht hd hu
    have h2 : reachBytes < 2 ^ 47 := reachBytes_lt
    have h3 : elems.length ≤ (elems.length + spare.length) * P.bytesOf e := Nat.le_trans (Nat.le_add_right _ _) (Nat.le_mul_of_pos_right _ hb)
    omega
end Go.Abs

/-
  THE SEAT'S FUNCTIONS, READ (part 2): the code of each as the abstract layer reads it, by program; each tie is a closed fact.
-/
namespace Go.Proofs.Ytkjkbpgdpnapfaa
open Go Go.Abs
def g73_0 : List G := [⟨(some 4), .mv (.c (.nils 7)), none⟩]
def d73_0 : Option (List (List Nat)) := none
def l73_0 : List Nat := []
theorem cd73_0 : dOk d73_0 g73_0 l73_0 = true := by kernel_rfl
def g73_1 : List G := [⟨(some 8), .mv (.t 0), none⟩,
  ⟨(some 9), .mv (.t 1), none⟩,
  ⟨(some 10), .call 108 [(.t 8), (.t 9)], none⟩,
  ⟨(some 5), .mv (.t 10), none⟩]
def d73_1 : Option (List (List Nat)) := none
def l73_1 : List Nat := []
theorem cd73_1 : dOk d73_1 g73_1 l73_1 = true := by kernel_rfl
def g73_2 : List G := [⟨(some 11), .mv (.t 5), none⟩,
  ⟨(some 12), .bin .eql (.t 11) (.c (.int .i64 (-1))), none⟩]
def d73_2 : Option (List (List Nat)) := none
def l73_2 : List Nat := []
theorem cd73_2 : dOk d73_2 g73_2 l73_2 = true := by kernel_rfl
def g73_3 : List G := [⟨(some 13), .mv (.t 0), none⟩,
  ⟨(some 4), .mv (.t 13), none⟩]
def d73_3 : Option (List (List Nat)) := none
def l73_3 : List Nat := []
theorem cd73_3 : dOk d73_3 g73_3 l73_3 = true := by kernel_rfl
def g73_4 : List G := [⟨(some 14), .mv (.t 5), none⟩,
  ⟨(some 15), .bin .add (.t 14) (.c (.int .i64 (1))), none⟩,
  ⟨(some 6), .mv (.t 15), none⟩]
def d73_4 : Option (List (List Nat)) := none
def l73_4 : List Nat := []
theorem cd73_4 : dOk d73_4 g73_4 l73_4 = true := by kernel_rfl
def g73_5 : List G := [⟨(some 16), .mv (.t 6), none⟩,
  ⟨(some 17), .mv (.t 0), none⟩,
  ⟨(some 18), .len (.t 17), none⟩,
  ⟨(some 19), .bin .lss (.t 16) (.t 18), none⟩]
def d73_5 : Option (List (List Nat)) := none
def l73_5 : List Nat := []
theorem cd73_5 : dOk d73_5 g73_5 l73_5 = true := by kernel_rfl
def g73_6 : List G := [⟨(some 22), .mv (.t 0), none⟩,
  ⟨(some 23), .mv (.t 6), none⟩,
  ⟨(some 24), .is 7 (.t 22) (.t 23), none⟩,
  ⟨(some 25), .ld (some 7) (.t 24), none⟩,
  ⟨(some 7), .alloc (.agg [.int .i64 (0), .agg [.int .i64 (0), .int .i64 (0), .int .i64 (0), .int .i64 (0), .int .i64 (0), .int .i64 (0)]]), none⟩,
  ⟨none, .st (some 7) (.t 7) (.t 25), none⟩]
def d73_6 : Option (List (List Nat)) := none
def l73_6 : List Nat := []
theorem cd73_6 : dOk d73_6 g73_6 l73_6 = true := by kernel_rfl
def g73_7 : List G := [⟨(some 26), .mv (.t 1), none⟩,
  ⟨(some 27), .ld (some 7) (.t 7), none⟩,
  ⟨(some 28), .callv (.t 26) [(.t 27)], none⟩,
  ⟨(some 29), .un .not (.t 28), none⟩]
def d73_7 : Option (List (List Nat)) := none
def l73_7 : List Nat := []
theorem cd73_7 : dOk d73_7 g73_7 l73_7 = true := by kernel_rfl
def g73_8 : List G := [⟨(some 30), .mv (.t 0), none⟩,
  ⟨(some 31), .mv (.t 5), none⟩,
  ⟨(some 32), .ld (some 7) (.t 7), none⟩,
  ⟨(some 33), .is 7 (.t 30) (.t 31), none⟩,
  ⟨none, .st (some 7) (.t 33) (.t 32), none⟩]
def d73_8 : Option (List (List Nat)) := none
def l73_8 : List Nat := []
theorem cd73_8 : dOk d73_8 g73_8 l73_8 = true := by kernel_rfl
def g73_9 : List G := [⟨(some 34), .mv (.t 5), none⟩,
  ⟨(some 35), .bin .add (.t 34) (.c (.int .i64 (1))), none⟩,
  ⟨(some 5), .mv (.t 35), none⟩]
def d73_9 : Option (List (List Nat)) := none
def l73_9 : List Nat := []
theorem cd73_9 : dOk d73_9 g73_9 l73_9 = true := by kernel_rfl
def g73_10 : List G := [⟨(some 20), .mv (.t 6), none⟩,
  ⟨(some 21), .bin .add (.t 20) (.c (.int .i64 (1))), none⟩,
  ⟨(some 6), .mv (.t 21), none⟩]
def d73_10 : Option (List (List Nat)) := none
def l73_10 : List Nat := []
theorem cd73_10 : dOk d73_10 g73_10 l73_10 = true := by kernel_rfl
def g73_11 : List G := [⟨(some 36), .mv (.t 0), none⟩,
  ⟨(some 37), .mv (.t 5), none⟩,
  ⟨(some 38), .sl 7 (.t 36) (some (.t 37)) none none, none⟩,
  ⟨none, .clr 7 (.agg [.int .i64 (0), .agg [.int .i64 (0), .int .i64 (0), .int .i64 (0), .int .i64 (0), .int .i64 (0), .int .i64 (0)]]) (.t 38), none⟩]
def d73_11 : Option (List (List Nat)) := none
def l73_11 : List Nat := []
theorem cd73_11 : dOk d73_11 g73_11 l73_11 = true := by kernel_rfl
def g73_12 : List G := [⟨(some 39), .mv (.t 0), none⟩,
  ⟨(some 40), .mv (.t 5), none⟩,
  ⟨(some 41), .sl 7 (.t 39) none (some (.t 40)) none, none⟩,
  ⟨(some 4), .mv (.t 41), none⟩]
def d73_12 : Option (List (List Nat)) := none
def l73_12 : List Nat := []
theorem cd73_12 : dOk d73_12 g73_12 l73_12 = true := by kernel_rfl
def c73 : AC := (.seq (.reg d73_0 g73_0) (.seq (.reg d73_1 g73_1) (.seq (.seq (.reg d73_2 g73_2) (.cond (.t 12) (.seq (.reg d73_3 g73_3) .ret) .skip)) (.seq (.seq (.reg d73_4 g73_4) (.block 0 (.loop (.seq (.seq (.reg d73_5 g73_5) (.cond (.t 19) .skip (.exit 0))) (.seq (.block 1 (.seq (.reg d73_6 g73_6) (.seq (.reg d73_7 g73_7) (.cond (.t 29) (.seq (.reg d73_8 g73_8) (.reg d73_9 g73_9)) .skip)))) (.reg d73_10 g73_10)))))) (.seq (.reg d73_11 g73_11) (.seq (.reg d73_12 g73_12) .ret))))))
def r73 : List RV := [.tmp 4]
theorem cc73 : (Try.f73.body.bind (cCode Try.prog Try.f73.ntmps)) = some c73 := by kernel_rfl
theorem cr73 : cRes Try.prog Try.f73.results.toList = some r73 := by kernel_rfl
theorem ca73 : callable Try.prog 73 = true := by kernel_rfl
def g74_0 : List G := [⟨(some 4), .box (.t 0), none⟩,
  ⟨(some 5), .mv (.c (.bool false)), none⟩]
def d74_0 : Option (List (List Nat)) := none
def l74_0 : List Nat := []
theorem cd74_0 : dOk d74_0 g74_0 l74_0 = true := by kernel_rfl
def g74_1 : List G := [⟨(some 6), .ld none (.t 1), none⟩,
  ⟨(some 7), .mk 76 [(.t 2), (.t 4), (.t 3)], none⟩,
  ⟨(some 8), .call 75 [(.t 6), (.t 7)], none⟩,
  ⟨(some 5), .mv (.t 8), none⟩]
def d74_1 : Option (List (List Nat)) := none
def l74_1 : List Nat := []
theorem cd74_1 : dOk d74_1 g74_1 l74_1 = true := by kernel_rfl
def c74 : AC := (.seq (.reg d74_0 g74_0) (.seq (.reg d74_1 g74_1) .ret))
def r74 : List RV := [.tmp 5]
theorem cc74 : (Try.f74.body.bind (cCode Try.prog Try.f74.ntmps)) = some c74 := by kernel_rfl
theorem cr74 : cRes Try.prog Try.f74.results.toList = some r74 := by kernel_rfl
theorem ca74 : callable Try.prog 74 = true := by kernel_rfl
def g75_0 : List G := [⟨(some 4), .mv (.c (.bool false)), none⟩]
def d75_0 : Option (List (List Nat)) := none
def l75_0 : List Nat := []
theorem cd75_0 : dOk d75_0 g75_0 l75_0 = true := by kernel_rfl
def g75_1 : List G := [⟨(some 5), .mv (.t 0), none⟩,
  ⟨(some 6), .mv (.t 1), none⟩,
  ⟨(some 7), .call 109 [(.t 5), (.t 6)], none⟩,
  ⟨(some 8), .bin .geq (.t 7) (.c (.int .i64 (0))), none⟩,
  ⟨(some 4), .mv (.t 8), none⟩]
def d75_1 : Option (List (List Nat)) := none
def l75_1 : List Nat := []
theorem cd75_1 : dOk d75_1 g75_1 l75_1 = true := by kernel_rfl
def c75 : AC := (.seq (.reg d75_0 g75_0) (.seq (.reg d75_1 g75_1) .ret))
def r75 : List RV := [.tmp 4]
theorem cc75 : (Try.f75.body.bind (cCode Try.prog Try.f75.ntmps)) = some c75 := by kernel_rfl
theorem cr75 : cRes Try.prog Try.f75.results.toList = some r75 := by kernel_rfl
theorem ca75 : callable Try.prog 75 = true := by kernel_rfl
def g76_0 : List G := [⟨(some 5), .mv (.c (.bool false)), none⟩]
def d76_0 : Option (List (List Nat)) := none
def l76_0 : List Nat := []
theorem cd76_0 : dOk d76_0 g76_0 l76_0 = true := by kernel_rfl
def g76_1 : List G := [⟨(some 6), .fa 0 0 (.t 1), none⟩,
  ⟨(some 7), .ld (some 5) (.t 6), none⟩,
  ⟨(some 8), .fa 1 1 (.t 2), none⟩,
  ⟨(some 9), .ld (some 6) (.t 8), none⟩,
  ⟨(some 10), .mv (.t 0), none⟩,
  ⟨(some 11), .call 77 [(.t 7), (.t 9), (.t 10)], none⟩,
  ⟨(some 12), .mv (.t 0), none⟩,
  ⟨(some 13), .ia 6 1 (.t 3) (.t 12), none⟩,
  ⟨(some 14), .ld none (.t 13), none⟩,
  ⟨(some 15), .call 78 [(.t 11), (.t 14)], none⟩,
  ⟨(some 16), .un .not (.t 15), none⟩,
  ⟨(some 5), .mv (.t 16), none⟩]
def d76_1 : Option (List (List Nat)) := (some [[], [0], [], [2], [], [1, 3, 4], [], [6], [7], [5, 8, 5], [9], [10, 9, 0, 1, 2, 3, 4, 5, 6, 7, 8, 9, 10]])
def l76_1 : List Nat := [0, 1, 0, 4, 0, 31, 0, 64, 192, 511, 1023, 2047]
theorem cd76_1 : dOk d76_1 g76_1 l76_1 = true := by kernel_rfl
def c76 : AC := (.seq (.reg d76_0 g76_0) (.seq (.reg d76_1 g76_1) .ret))
def r76 : List RV := [.tmp 5]
theorem cc76 : (Try.f76.body.bind (cCode Try.prog Try.f76.ntmps)) = some c76 := by kernel_rfl
theorem cr76 : cRes Try.prog Try.f76.results.toList = some r76 := by kernel_rfl
theorem ca76 : callable Try.prog 76 = true := by kernel_rfl
def g77_0 : List G := [⟨(some 3), .box (.t 0), none⟩,
  ⟨(some 4), .box (.t 1), none⟩,
  ⟨(some 6), .mv (.c (.int .i64 (0))), none⟩]
def d77_0 : Option (List (List Nat)) := none
def l77_0 : List Nat := []
theorem cd77_0 : dOk d77_0 g77_0 l77_0 = true := by kernel_rfl
def g77_1 : List G := [⟨(some 7), .mv (.t 2), none⟩,
  ⟨(some 8), .ia 6 1 (.t 4) (.t 7), none⟩,
  ⟨(some 9), .ld none (.t 8), none⟩,
  ⟨(some 10), .ia 5 1 (.t 3) (.t 9), none⟩,
  ⟨(some 11), .ld none (.t 10), none⟩,
  ⟨(some 6), .mv (.t 11), none⟩]
def d77_1 : Option (List (List Nat)) := none
def l77_1 : List Nat := []
theorem cd77_1 : dOk d77_1 g77_1 l77_1 = true := by kernel_rfl
def c77 : AC := (.seq (.reg d77_0 g77_0) (.seq (.reg d77_1 g77_1) .ret))
def r77 : List RV := [.tmp 6]
theorem cc77 : (Try.f77.body.bind (cCode Try.prog Try.f77.ntmps)) = some c77 := by kernel_rfl
theorem cr77 : cRes Try.prog Try.f77.results.toList = some r77 := by kernel_rfl
theorem ca77 : callable Try.prog 77 = true := by kernel_rfl
def g78_0 : List G := [⟨(some 4), .mv (.c (.bool false)), none⟩]
def d78_0 : Option (List (List Nat)) := none
def l78_0 : List Nat := []
theorem cd78_0 : dOk d78_0 g78_0 l78_0 = true := by kernel_rfl
def g78_1 : List G := [⟨(some 5), .mv (.t 0), none⟩,
  ⟨(some 6), .mv (.t 1), none⟩,
  ⟨(some 7), .bin .and (.t 5) (.t 6), none⟩,
  ⟨(some 8), .bin .neq (.t 7) (.c (.int .i64 (0))), none⟩,
  ⟨(some 4), .mv (.t 8), none⟩]
def d78_1 : Option (List (List Nat)) := none
def l78_1 : List Nat := []
theorem cd78_1 : dOk d78_1 g78_1 l78_1 = true := by kernel_rfl
def c78 : AC := (.seq (.reg d78_0 g78_0) (.seq (.reg d78_1 g78_1) .ret))
def r78 : List RV := [.tmp 4]
theorem cc78 : (Try.f78.body.bind (cCode Try.prog Try.f78.ntmps)) = some c78 := by kernel_rfl
theorem cr78 : cRes Try.prog Try.f78.results.toList = some r78 := by kernel_rfl
theorem ca78 : callable Try.prog 78 = true := by kernel_rfl
def g79_0 : List G := [⟨(some 2), .mv (.c (.bool false)), none⟩]
def d79_0 : Option (List (List Nat)) := none
def l79_0 : List Nat := []
theorem cd79_0 : dOk d79_0 g79_0 l79_0 = true := by kernel_rfl
def g79_1 : List G := [⟨(some 3), .mv (.c (.int .i64 (0))), none⟩]
def d79_1 : Option (List (List Nat)) := none
def l79_1 : List Nat := []
theorem cd79_1 : dOk d79_1 g79_1 l79_1 = true := by kernel_rfl
def g79_2 : List G := [⟨(some 4), .mv (.t 3), none⟩,
  ⟨(some 5), .mv (.t 0), none⟩,
  ⟨(some 6), .len (.t 5), none⟩,
  ⟨(some 7), .bin .lss (.t 4) (.t 6), none⟩]
def d79_2 : Option (List (List Nat)) := none
def l79_2 : List Nat := []
theorem cd79_2 : dOk d79_2 g79_2 l79_2 = true := by kernel_rfl
def g79_3 : List G := [⟨(some 10), .mv (.t 0), none⟩,
  ⟨(some 11), .mv (.t 3), none⟩,
  ⟨(some 12), .is 1 (.t 10) (.t 11), none⟩,
  ⟨(some 13), .ld none (.t 12), none⟩,
  ⟨(some 14), .call 94 [(.t 13), (.c (.int .i64 (0))), (.c (.int .i64 (5)))], none⟩,
  ⟨(some 15), .un .not (.t 14), none⟩,
  ⟨(some 16), .mv (.t 15), none⟩,
  ⟨(some 17), .mv (.t 3), some (16, false)⟩,
  ⟨(some 18), .bin .gtr (.t 17) (.c (.int .i64 (0))), some (16, false)⟩,
  ⟨(some 19), .mv (.t 18), some (16, false)⟩,
  ⟨(some 20), .mv (.t 0), some (19, true)⟩,
  ⟨(some 21), .mv (.t 3), some (19, true)⟩,
  ⟨(some 22), .bin .sub (.t 21) (.c (.int .i64 (1))), some (19, true)⟩,
  ⟨(some 23), .is 1 (.t 20) (.t 22), some (19, true)⟩,
  ⟨(some 24), .ld none (.t 23), some (19, true)⟩,
  ⟨(some 25), .mv (.t 0), some (19, true)⟩,
  ⟨(some 26), .mv (.t 3), some (19, true)⟩,
  ⟨(some 27), .is 1 (.t 25) (.t 26), some (19, true)⟩,
  ⟨(some 28), .ld none (.t 27), some (19, true)⟩,
  ⟨(some 29), .bin .geq (.t 24) (.t 28), some (19, true)⟩,
  ⟨(some 30), .pick (.t 19) (.t 29) (.c (.bool false)), some (16, false)⟩,
  ⟨(some 31), .pick (.t 16) (.c (.bool true)) (.t 30), none⟩]
def d79_3 : Option (List (List Nat)) := (some [[], [], [0, 1], [2], [3], [4], [5, 4], [6], [7, 6], [8, 6, 6], [9], [9], [11, 9], [10, 12, 9], [13, 9], [9], [9], [15, 16, 9], [17, 9], [14, 18, 9], [9, 19, 6], [6, 20]])
def l79_3 : List Nat := [0, 0, 3, 7, 15, 31, 63, 127, 255, 511, 1023, 1023, 3071, 8191, 16383, 1023, 1023, 99327, 230399, 524287, 1048575, 2097151]
theorem cd79_3 : dOk d79_3 g79_3 l79_3 = true := by kernel_rfl
def g79_4 : List G := [⟨(some 2), .mv (.c (.bool false)), none⟩]
def d79_4 : Option (List (List Nat)) := none
def l79_4 : List Nat := []
theorem cd79_4 : dOk d79_4 g79_4 l79_4 = true := by kernel_rfl
def g79_5 : List G := [⟨(some 8), .mv (.t 3), none⟩,
  ⟨(some 9), .bin .add (.t 8) (.c (.int .i64 (1))), none⟩,
  ⟨(some 3), .mv (.t 9), none⟩]
def d79_5 : Option (List (List Nat)) := none
def l79_5 : List Nat := []
theorem cd79_5 : dOk d79_5 g79_5 l79_5 = true := by kernel_rfl
def g79_6 : List G := [⟨(some 2), .mv (.c (.bool true)), none⟩]
def d79_6 : Option (List (List Nat)) := none
def l79_6 : List Nat := []
theorem cd79_6 : dOk d79_6 g79_6 l79_6 = true := by kernel_rfl
def c79 : AC := (.seq (.reg d79_0 g79_0) (.seq (.seq (.reg d79_1 g79_1) (.block 0 (.loop (.seq (.seq (.reg d79_2 g79_2) (.cond (.t 7) .skip (.exit 0))) (.seq (.block 1 (.seq (.reg d79_3 g79_3) (.cond (.t 31) (.seq (.reg d79_4 g79_4) .ret) .skip))) (.reg d79_5 g79_5)))))) (.seq (.reg d79_6 g79_6) .ret)))
def r79 : List RV := [.tmp 2]
theorem cc79 : (Try.f79.body.bind (cCode Try.prog Try.f79.ntmps)) = some c79 := by kernel_rfl
theorem cr79 : cRes Try.prog Try.f79.results.toList = some r79 := by kernel_rfl
theorem ca79 : callable Try.prog 79 = true := by kernel_rfl
def g80_0 : List G := [⟨(some 2), .box (.t 0), none⟩,
  ⟨(some 4), .mv (.c (.int .i64 (0))), none⟩]
def d80_0 : Option (List (List Nat)) := none
def l80_0 : List Nat := []
theorem cd80_0 : dOk d80_0 g80_0 l80_0 = true := by kernel_rfl
def g80_1 : List G := [⟨(some 5), .mv (.c (.int .i64 (0))), none⟩]
def d80_1 : Option (List (List Nat)) := none
def l80_1 : List Nat := []
theorem cd80_1 : dOk d80_1 g80_1 l80_1 = true := by kernel_rfl
def g80_2 : List G := [⟨(some 6), .mv (.t 5), none⟩,
  ⟨(some 7), .fa 2 6 (.t 2), none⟩,
  ⟨(some 8), .ld none (.t 7), none⟩,
  ⟨(some 9), .len (.t 8), none⟩,
  ⟨(some 10), .bin .lss (.t 6) (.t 9), none⟩]
def d80_2 : Option (List (List Nat)) := none
def l80_2 : List Nat := []
theorem cd80_2 : dOk d80_2 g80_2 l80_2 = true := by kernel_rfl
def g80_3 : List G := [⟨(some 13), .fa 2 6 (.t 2), none⟩,
  ⟨(some 14), .ld none (.t 13), none⟩,
  ⟨(some 15), .mv (.t 5), none⟩,
  ⟨(some 16), .is 7 (.t 14) (.t 15), none⟩,
  ⟨(some 17), .fa 0 0 (.t 16), none⟩,
  ⟨(some 18), .ld none (.t 17), none⟩,
  ⟨(some 19), .mv (.t 1), none⟩,
  ⟨(some 20), .bin .eql (.t 18) (.t 19), none⟩]
def d80_3 : Option (List (List Nat)) := none
def l80_3 : List Nat := []
theorem cd80_3 : dOk d80_3 g80_3 l80_3 = true := by kernel_rfl
def g80_4 : List G := [⟨(some 21), .mv (.t 5), none⟩,
  ⟨(some 4), .mv (.t 21), none⟩]
def d80_4 : Option (List (List Nat)) := none
def l80_4 : List Nat := []
theorem cd80_4 : dOk d80_4 g80_4 l80_4 = true := by kernel_rfl
def g80_5 : List G := [⟨(some 11), .mv (.t 5), none⟩,
  ⟨(some 12), .bin .add (.t 11) (.c (.int .i64 (1))), none⟩,
  ⟨(some 5), .mv (.t 12), none⟩]
def d80_5 : Option (List (List Nat)) := none
def l80_5 : List Nat := []
theorem cd80_5 : dOk d80_5 g80_5 l80_5 = true := by kernel_rfl
def g80_6 : List G := [⟨(some 4), .mv (.c (.int .i64 (-1))), none⟩]
def d80_6 : Option (List (List Nat)) := none
def l80_6 : List Nat := []
theorem cd80_6 : dOk d80_6 g80_6 l80_6 = true := by kernel_rfl
def c80 : AC := (.seq (.reg d80_0 g80_0) (.seq (.seq (.reg d80_1 g80_1) (.block 0 (.loop (.seq (.seq (.reg d80_2 g80_2) (.cond (.t 10) .skip (.exit 0))) (.seq (.block 1 (.seq (.reg d80_3 g80_3) (.cond (.t 20) (.seq (.reg d80_4 g80_4) .ret) .skip))) (.reg d80_5 g80_5)))))) (.seq (.reg d80_6 g80_6) .ret)))
def r80 : List RV := [.tmp 4]
theorem cc80 : (Try.f80.body.bind (cCode Try.prog Try.f80.ntmps)) = some c80 := by kernel_rfl
theorem cr80 : cRes Try.prog Try.f80.results.toList = some r80 := by kernel_rfl
theorem ca80 : callable Try.prog 80 = true := by kernel_rfl
def g81_0 : List G := [⟨(some 2), .mv (.c (.nils 1)), none⟩]
def d81_0 : Option (List (List Nat)) := none
def l81_0 : List Nat := []
theorem cd81_0 : dOk d81_0 g81_0 l81_0 = true := by kernel_rfl
def g81_1 : List G := [⟨(some 3), .mv (.c (.nils 1)), none⟩]
def d81_1 : Option (List (List Nat)) := none
def l81_1 : List Nat := []
theorem cd81_1 : dOk d81_1 g81_1 l81_1 = true := by kernel_rfl
def g81_2 : List G := [⟨(some 5), .mv (.c (.int .i64 (0))), none⟩]
def d81_2 : Option (List (List Nat)) := none
def l81_2 : List Nat := []
theorem cd81_2 : dOk d81_2 g81_2 l81_2 = true := by kernel_rfl
def g81_3 : List G := [⟨(some 6), .bin .lss (.t 5) (.c (.int .i64 (5))), none⟩]
def d81_3 : Option (List (List Nat)) := none
def l81_3 : List Nat := []
theorem cd81_3 : dOk d81_3 g81_3 l81_3 = true := by kernel_rfl
def g81_4 : List G := [⟨(some 7), .mv (.t 5), none⟩,
  ⟨(some 4), .mv (.t 7), none⟩]
def d81_4 : Option (List (List Nat)) := none
def l81_4 : List Nat := []
theorem cd81_4 : dOk d81_4 g81_4 l81_4 = true := by kernel_rfl
def g81_5 : List G := [⟨(some 8), .mv (.t 0), none⟩,
  ⟨(some 9), .mv (.t 4), none⟩,
  ⟨(some 10), .call 110 [(.t 8), (.t 9)], none⟩]
def d81_5 : Option (List (List Nat)) := none
def l81_5 : List Nat := []
theorem cd81_5 : dOk d81_5 g81_5 l81_5 = true := by kernel_rfl
def g81_6 : List G := [⟨(some 11), .mv (.t 3), none⟩,
  ⟨(some 12), .mv (.t 4), none⟩,
  ⟨(some 13), .bs 1 [(.t 12)], none⟩,
  ⟨(some 14), .app 3 1 8 (.int .i64 (0)) (.t 11) (.t 13), none⟩,
  ⟨(some 3), .mv (.t 14), none⟩]
def d81_6 : Option (List (List Nat)) := none
def l81_6 : List Nat := []
theorem cd81_6 : dOk d81_6 g81_6 l81_6 = true := by kernel_rfl
def g81_7 : List G := [⟨(some 15), .bin .add (.t 5) (.c (.int .i64 (1))), none⟩,
  ⟨(some 5), .mv (.t 15), none⟩]
def d81_7 : Option (List (List Nat)) := none
def l81_7 : List Nat := []
theorem cd81_7 : dOk d81_7 g81_7 l81_7 = true := by kernel_rfl
def g81_8 : List G := [⟨(some 16), .mv (.t 3), none⟩,
  ⟨(some 2), .mv (.t 16), none⟩]
def d81_8 : Option (List (List Nat)) := none
def l81_8 : List Nat := []
theorem cd81_8 : dOk d81_8 g81_8 l81_8 = true := by kernel_rfl
def c81 : AC := (.seq (.reg d81_0 g81_0) (.seq (.reg d81_1 g81_1) (.seq (.seq (.reg d81_2 g81_2) (.block 0 (.loop (.seq (.reg d81_3 g81_3) (.seq (.cond (.t 6) .skip (.exit 0)) (.seq (.block 1 (.seq (.reg d81_4 g81_4) (.seq (.reg d81_5 g81_5) (.cond (.t 10) (.reg d81_6 g81_6) .skip)))) (.reg d81_7 g81_7))))))) (.seq (.reg d81_8 g81_8) .ret))))
def r81 : List RV := [.tmp 2]
theorem cc81 : (Try.f81.body.bind (cCode Try.prog Try.f81.ntmps)) = some c81 := by kernel_rfl
theorem cr81 : cRes Try.prog Try.f81.results.toList = some r81 := by kernel_rfl
theorem ca81 : callable Try.prog 81 = true := by kernel_rfl
def g82_0 : List G := [⟨(some 0), .alloc (.agg [.agg [.int .i64 (0), .int .i64 (0), .int .i64 (0), .int .i64 (0), .int .i64 (0)], .int .i64 (0), .nils 7]), none⟩]
def d82_0 : Option (List (List Nat)) := none
def l82_0 : List Nat := []
theorem cd82_0 : dOk d82_0 g82_0 l82_0 = true := by kernel_rfl
def g82_1 : List G := [⟨(some 1), .bld [.int .i64 (0), .int .i64 (0), .int .i64 (0), .int .i64 (0), .int .i64 (0)] [(0, (.c (.int .i64 (1)))), (1, (.c (.int .i64 (3)))), (2, (.c (.int .i64 (4)))), (3, (.c (.int .i64 (24)))), (4, (.c (.int .i64 (24))))], none⟩,
  ⟨(some 2), .bld [.int .i64 (0), .agg [.int .i64 (0), .int .i64 (0), .int .i64 (0), .int .i64 (0), .int .i64 (0), .int .i64 (0)]] [(0, (.c (.int .i64 (1))))], none⟩,
  ⟨(some 3), .bld [.int .i64 (0), .int .i64 (0), .int .i64 (0), .int .i64 (0), .int .i64 (0), .int .i64 (0)] [(0, (.c (.int .i64 (2)))), (1, (.c (.int .i64 (0)))), (2, (.c (.int .i64 (0)))), (3, (.c (.int .i64 (0)))), (4, (.c (.int .i64 (0)))), (5, (.c (.int .i64 (0))))], none⟩,
  ⟨(some 4), .bld [.int .i64 (0), .agg [.int .i64 (0), .int .i64 (0), .int .i64 (0), .int .i64 (0), .int .i64 (0), .int .i64 (0)]] [(0, (.c (.int .i64 (2)))), (1, (.t 3))], none⟩,
  ⟨(some 5), .bld [.int .i64 (0), .int .i64 (0), .int .i64 (0), .int .i64 (0), .int .i64 (0), .int .i64 (0)] [(0, (.c (.int .i64 (3)))), (1, (.c (.int .i64 (0)))), (2, (.c (.int .i64 (0)))), (3, (.c (.int .i64 (0)))), (4, (.c (.int .i64 (0)))), (5, (.c (.int .i64 (2))))], none⟩,
  ⟨(some 6), .bld [.int .i64 (0), .agg [.int .i64 (0), .int .i64 (0), .int .i64 (0), .int .i64 (0), .int .i64 (0), .int .i64 (0)]] [(0, (.c (.int .i64 (3)))), (1, (.t 5))], none⟩,
  ⟨(some 7), .bs 7 [(.t 2), (.t 4), (.t 6)], none⟩,
  ⟨(some 8), .bld [.agg [.int .i64 (0), .int .i64 (0), .int .i64 (0), .int .i64 (0), .int .i64 (0)], .int .i64 (0), .nils 7] [(0, (.t 1)), (2, (.t 7))], none⟩,
  ⟨none, .st (some 7) (.t 0) (.t 8), none⟩]
def d82_1 : Option (List (List Nat)) := none
def l82_1 : List Nat := []
theorem cd82_1 : dOk d82_1 g82_1 l82_1 = true := by kernel_rfl
def c82 : AC := (.seq (.reg d82_0 g82_0) (.seq (.reg d82_1 g82_1) .ret))
def r82 : List RV := [.cell 0 (some 7)]
theorem cc82 : (Try.f82.body.bind (cCode Try.prog Try.f82.ntmps)) = some c82 := by kernel_rfl
theorem cr82 : cRes Try.prog Try.f82.results.toList = some r82 := by kernel_rfl
theorem ca82 : callable Try.prog 82 = true := by kernel_rfl
def g84_0 : List G := [⟨(some 2), .box (.t 0), none⟩,
  ⟨(some 3), .box (.t 1), none⟩,
  ⟨(some 4), .mv (.c (.nils 1)), none⟩]
def d84_0 : Option (List (List Nat)) := none
def l84_0 : List Nat := []
theorem cd84_0 : dOk d84_0 g84_0 l84_0 = true := by kernel_rfl
def g84_1 : List G := [⟨(some 5), .mv (.c (.nils 1)), none⟩]
def d84_1 : Option (List (List Nat)) := none
def l84_1 : List Nat := []
theorem cd84_1 : dOk d84_1 g84_1 l84_1 = true := by kernel_rfl
def g84_2 : List G := [⟨(some 6), .mv (.c (.int .i64 (0))), none⟩]
def d84_2 : Option (List (List Nat)) := none
def l84_2 : List Nat := []
theorem cd84_2 : dOk d84_2 g84_2 l84_2 = true := by kernel_rfl
def g84_3 : List G := [⟨(some 7), .mv (.t 6), none⟩,
  ⟨(some 8), .fa 2 6 (.t 2), none⟩,
  ⟨(some 9), .ld none (.t 8), none⟩,
  ⟨(some 10), .len (.t 9), none⟩,
  ⟨(some 11), .bin .lss (.t 7) (.t 10), none⟩]
def d84_3 : Option (List (List Nat)) := none
def l84_3 : List Nat := []
theorem cd84_3 : dOk d84_3 g84_3 l84_3 = true := by kernel_rfl
def g84_4 : List G := [⟨(some 14), .fa 0 0 (.t 2), none⟩,
  ⟨(some 15), .ld (some 5) (.t 14), none⟩,
  ⟨(some 16), .fa 2 6 (.t 2), none⟩,
  ⟨(some 17), .ld none (.t 16), none⟩,
  ⟨(some 18), .mv (.t 6), none⟩,
  ⟨(some 19), .is 7 (.t 17) (.t 18), none⟩,
  ⟨(some 20), .fa 1 1 (.t 19), none⟩,
  ⟨(some 21), .ld (some 6) (.t 20), none⟩,
  ⟨(some 22), .ld (some 6) (.t 3), none⟩,
  ⟨(some 23), .call 86 [(.t 15), (.t 21), (.t 22)], none⟩,
  ⟨(some 24), .fa 1 5 (.t 2), none⟩,
  ⟨(some 25), .ld none (.t 24), none⟩,
  ⟨(some 26), .bin .leq (.t 23) (.t 25), none⟩]
def d84_4 : Option (List (List Nat)) := (some [[], [0], [], [2], [], [3, 4], [5], [6], [], [1, 7, 8], [], [10], [9, 11]])
def l84_4 : List Nat := [0, 1, 0, 4, 0, 28, 60, 124, 0, 511, 0, 1024, 4095]
theorem cd84_4 : dOk d84_4 g84_4 l84_4 = true := by kernel_rfl
def g84_5 : List G := [⟨(some 27), .mv (.t 5), none⟩,
  ⟨(some 28), .fa 2 6 (.t 2), none⟩,
  ⟨(some 29), .ld none (.t 28), none⟩,
  ⟨(some 30), .mv (.t 6), none⟩,
  ⟨(some 31), .is 7 (.t 29) (.t 30), none⟩,
  ⟨(some 32), .fa 0 0 (.t 31), none⟩,
  ⟨(some 33), .ld none (.t 32), none⟩,
  ⟨(some 34), .bs 1 [(.t 33)], none⟩,
  ⟨(some 35), .app 3 1 8 (.int .i64 (0)) (.t 27) (.t 34), none⟩,
  ⟨(some 5), .mv (.t 35), none⟩]
def d84_5 : Option (List (List Nat)) := none
def l84_5 : List Nat := []
theorem cd84_5 : dOk d84_5 g84_5 l84_5 = true := by kernel_rfl
def g84_6 : List G := [⟨(some 12), .mv (.t 6), none⟩,
  ⟨(some 13), .bin .add (.t 12) (.c (.int .i64 (1))), none⟩,
  ⟨(some 6), .mv (.t 13), none⟩]
def d84_6 : Option (List (List Nat)) := none
def l84_6 : List Nat := []
theorem cd84_6 : dOk d84_6 g84_6 l84_6 = true := by kernel_rfl
def g84_7 : List G := [⟨(some 36), .mv (.t 5), none⟩,
  ⟨(some 4), .mv (.t 36), none⟩]
def d84_7 : Option (List (List Nat)) := none
def l84_7 : List Nat := []
theorem cd84_7 : dOk d84_7 g84_7 l84_7 = true := by kernel_rfl
def c84 : AC := (.seq (.reg d84_0 g84_0) (.seq (.reg d84_1 g84_1) (.seq (.seq (.reg d84_2 g84_2) (.block 0 (.loop (.seq (.seq (.reg d84_3 g84_3) (.cond (.t 11) .skip (.exit 0))) (.seq (.block 1 (.seq (.reg d84_4 g84_4) (.cond (.t 26) (.reg d84_5 g84_5) .skip))) (.reg d84_6 g84_6)))))) (.seq (.reg d84_7 g84_7) .ret))))
def r84 : List RV := [.tmp 4]
theorem cc84 : (Try.f84.body.bind (cCode Try.prog Try.f84.ntmps)) = some c84 := by kernel_rfl
theorem cr84 : cRes Try.prog Try.f84.results.toList = some r84 := by kernel_rfl
theorem ca84 : callable Try.prog 84 = true := by kernel_rfl
def g85_0 : List G := [⟨(some 2), .mv (.c (.nils 7)), none⟩]
def d85_0 : Option (List (List Nat)) := none
def l85_0 : List Nat := []
theorem cd85_0 : dOk d85_0 g85_0 l85_0 = true := by kernel_rfl
def g85_1 : List G := [⟨(some 3), .mv (.t 0), none⟩,
  ⟨(some 4), .nilS false (.t 3), none⟩]
def d85_1 : Option (List (List Nat)) := none
def l85_1 : List Nat := []
theorem cd85_1 : dOk d85_1 g85_1 l85_1 = true := by kernel_rfl
def g85_2 : List G := [⟨(some 2), .mv (.c (.nils 7)), none⟩]
def d85_2 : Option (List (List Nat)) := none
def l85_2 : List Nat := []
theorem cd85_2 : dOk d85_2 g85_2 l85_2 = true := by kernel_rfl
def g85_3 : List G := [⟨(some 5), .bs0 7, none⟩,
  ⟨(some 6), .mv (.t 0), none⟩,
  ⟨(some 7), .app 43 7 56 (.agg [.int .i64 (0), .agg [.int .i64 (0), .int .i64 (0), .int .i64 (0), .int .i64 (0), .int .i64 (0), .int .i64 (0)]]) (.t 5) (.t 6), none⟩,
  ⟨(some 2), .mv (.t 7), none⟩]
def d85_3 : Option (List (List Nat)) := none
def l85_3 : List Nat := []
theorem cd85_3 : dOk d85_3 g85_3 l85_3 = true := by kernel_rfl
def c85 : AC := (.seq (.reg d85_0 g85_0) (.seq (.seq (.reg d85_1 g85_1) (.cond (.t 4) (.seq (.reg d85_2 g85_2) .ret) .skip)) (.seq (.reg d85_3 g85_3) .ret)))
def r85 : List RV := [.tmp 2]
theorem cc85 : (Try.f85.body.bind (cCode Try.prog Try.f85.ntmps)) = some c85 := by kernel_rfl
theorem cr85 : cRes Try.prog Try.f85.results.toList = some r85 := by kernel_rfl
theorem ca85 : callable Try.prog 85 = true := by kernel_rfl
def g86_0 : List G := [⟨(some 3), .box (.t 0), none⟩,
  ⟨(some 4), .box (.t 1), none⟩,
  ⟨(some 5), .box (.t 2), none⟩,
  ⟨(some 6), .mv (.c (.int .i64 (0))), none⟩]
def d86_0 : Option (List (List Nat)) := none
def l86_0 : List Nat := []
theorem cd86_0 : dOk d86_0 g86_0 l86_0 = true := by kernel_rfl
def g86_1 : List G := [⟨(some 7), .mv (.c (.int .i64 (0))), none⟩]
def d86_1 : Option (List (List Nat)) := none
def l86_1 : List Nat := []
theorem cd86_1 : dOk d86_1 g86_1 l86_1 = true := by kernel_rfl
def g86_2 : List G := [⟨(some 8), .mv (.c (.int .i64 (0))), none⟩]
def d86_2 : Option (List (List Nat)) := none
def l86_2 : List Nat := []
theorem cd86_2 : dOk d86_2 g86_2 l86_2 = true := by kernel_rfl
def g86_3 : List G := [⟨(some 9), .mv (.t 8), none⟩,
  ⟨(some 10), .bin .lss (.t 9) (.c (.int .i64 (6))), none⟩]
def d86_3 : Option (List (List Nat)) := none
def l86_3 : List Nat := []
theorem cd86_3 : dOk d86_3 g86_3 l86_3 = true := by kernel_rfl
def g86_4 : List G := [⟨(some 13), .mv (.t 8), none⟩,
  ⟨(some 14), .ia 6 1 (.t 4) (.t 13), none⟩,
  ⟨(some 15), .ld none (.t 14), none⟩,
  ⟨(some 16), .ia 5 1 (.t 3) (.t 15), none⟩,
  ⟨(some 17), .ld none (.t 16), none⟩,
  ⟨(some 18), .mv (.t 8), none⟩,
  ⟨(some 19), .ia 6 1 (.t 5) (.t 18), none⟩,
  ⟨(some 20), .ld none (.t 19), none⟩,
  ⟨(some 21), .bin .and (.t 17) (.t 20), none⟩,
  ⟨(some 22), .bin .eql (.t 21) (.c (.int .i64 (0))), none⟩]
def d86_4 : Option (List (List Nat)) := (some [[], [0], [1], [2], [3], [], [5], [6], [4, 7], [8]])
def l86_4 : List Nat := [0, 1, 3, 7, 15, 0, 32, 96, 255, 511]
theorem cd86_4 : dOk d86_4 g86_4 l86_4 = true := by kernel_rfl
def g86_5 : List G := [⟨(some 23), .mv (.t 7), none⟩,
  ⟨(some 24), .bin .add (.t 23) (.c (.int .i64 (1))), none⟩,
  ⟨(some 7), .mv (.t 24), none⟩]
def d86_5 : Option (List (List Nat)) := none
def l86_5 : List Nat := []
theorem cd86_5 : dOk d86_5 g86_5 l86_5 = true := by kernel_rfl
def g86_6 : List G := [⟨(some 11), .mv (.t 8), none⟩,
  ⟨(some 12), .bin .add (.t 11) (.c (.int .i64 (1))), none⟩,
  ⟨(some 8), .mv (.t 12), none⟩]
def d86_6 : Option (List (List Nat)) := none
def l86_6 : List Nat := []
theorem cd86_6 : dOk d86_6 g86_6 l86_6 = true := by kernel_rfl
def g86_7 : List G := [⟨(some 25), .mv (.t 7), none⟩,
  ⟨(some 6), .mv (.t 25), none⟩]
def d86_7 : Option (List (List Nat)) := none
def l86_7 : List Nat := []
theorem cd86_7 : dOk d86_7 g86_7 l86_7 = true := by kernel_rfl
def c86 : AC := (.seq (.reg d86_0 g86_0) (.seq (.reg d86_1 g86_1) (.seq (.seq (.reg d86_2 g86_2) (.block 0 (.loop (.seq (.seq (.reg d86_3 g86_3) (.cond (.t 10) .skip (.exit 0))) (.seq (.block 1 (.seq (.reg d86_4 g86_4) (.cond (.t 22) (.reg d86_5 g86_5) .skip))) (.reg d86_6 g86_6)))))) (.seq (.reg d86_7 g86_7) .ret))))
def r86 : List RV := [.tmp 6]
theorem cc86 : (Try.f86.body.bind (cCode Try.prog Try.f86.ntmps)) = some c86 := by kernel_rfl
theorem cr86 : cRes Try.prog Try.f86.results.toList = some r86 := by kernel_rfl
theorem ca86 : callable Try.prog 86 = true := by kernel_rfl
def g87_0 : List G := [⟨(some 3), .box (.t 0), none⟩,
  ⟨(some 4), .box (.t 1), none⟩,
  ⟨(some 5), .box (.t 2), none⟩,
  ⟨(some 6), .mv (.c (.int .i64 (0))), none⟩]
def d87_0 : Option (List (List Nat)) := none
def l87_0 : List Nat := []
theorem cd87_0 : dOk d87_0 g87_0 l87_0 = true := by kernel_rfl
def g87_1 : List G := [⟨(some 7), .alloc (.nilf), none⟩,
  ⟨none, .st none (.t 7) (.c (.func 78 [])), none⟩]
def d87_1 : Option (List (List Nat)) := none
def l87_1 : List Nat := []
theorem cd87_1 : dOk d87_1 g87_1 l87_1 = true := by kernel_rfl
def g87_2 : List G := [⟨(some 8), .mk 112 [(.t 7), (.t 3), (.t 4), (.t 5)], none⟩,
  ⟨(some 9), .call 111 [(.t 8)], none⟩,
  ⟨(some 6), .mv (.t 9), none⟩]
def d87_2 : Option (List (List Nat)) := none
def l87_2 : List Nat := []
theorem cd87_2 : dOk d87_2 g87_2 l87_2 = true := by kernel_rfl
def c87 : AC := (.seq (.reg d87_0 g87_0) (.seq (.reg d87_1 g87_1) (.seq (.reg d87_2 g87_2) .ret)))
def r87 : List RV := [.tmp 6]
theorem cc87 : (Try.f87.body.bind (cCode Try.prog Try.f87.ntmps)) = some c87 := by kernel_rfl
theorem cr87 : cRes Try.prog Try.f87.results.toList = some r87 := by kernel_rfl
theorem ca87 : callable Try.prog 87 = true := by kernel_rfl
def g88_0 : List G := [⟨(some 3), .box (.t 0), none⟩,
  ⟨(some 4), .box (.t 1), none⟩,
  ⟨(some 5), .box (.t 2), none⟩,
  ⟨(some 6), .mv (.c (.int .i64 (0))), none⟩]
def d88_0 : Option (List (List Nat)) := none
def l88_0 : List Nat := []
theorem cd88_0 : dOk d88_0 g88_0 l88_0 = true := by kernel_rfl
def g88_1 : List G := [⟨(some 7), .alloc (.nilf), none⟩,
  ⟨none, .st none (.t 7) (.c (.func 78 [])), none⟩]
def d88_1 : Option (List (List Nat)) := none
def l88_1 : List Nat := []
theorem cd88_1 : dOk d88_1 g88_1 l88_1 = true := by kernel_rfl
def g88_2 : List G := [⟨(some 8), .mk 113 [(.t 7), (.t 3), (.t 4), (.t 5)], none⟩,
  ⟨(some 9), .call 111 [(.t 8)], none⟩,
  ⟨(some 6), .mv (.t 9), none⟩]
def d88_2 : Option (List (List Nat)) := none
def l88_2 : List Nat := []
theorem cd88_2 : dOk d88_2 g88_2 l88_2 = true := by kernel_rfl
def c88 : AC := (.seq (.reg d88_0 g88_0) (.seq (.reg d88_1 g88_1) (.seq (.reg d88_2 g88_2) .ret)))
def r88 : List RV := [.tmp 6]
theorem cc88 : (Try.f88.body.bind (cCode Try.prog Try.f88.ntmps)) = some c88 := by kernel_rfl
theorem cr88 : cRes Try.prog Try.f88.results.toList = some r88 := by kernel_rfl
theorem ca88 : callable Try.prog 88 = true := by kernel_rfl
def g89_0 : List G := [⟨(some 6), .mv (.c (.bool false)), none⟩]
def d89_0 : Option (List (List Nat)) := none
def l89_0 : List Nat := []
theorem cd89_0 : dOk d89_0 g89_0 l89_0 = true := by kernel_rfl
def g89_1 : List G := [⟨(some 7), .mv (.t 1), none⟩,
  ⟨(some 8), .mv (.t 0), none⟩,
  ⟨(some 9), .bin .leq (.t 7) (.t 8), none⟩,
  ⟨(some 10), .mv (.t 9), none⟩,
  ⟨(some 11), .mv (.t 0), some (10, true)⟩,
  ⟨(some 12), .mv (.t 2), some (10, true)⟩,
  ⟨(some 13), .bin .leq (.t 11) (.t 12), some (10, true)⟩,
  ⟨(some 14), .pick (.t 10) (.t 13) (.c (.bool false)), none⟩,
  ⟨(some 6), .mv (.t 14), none⟩]
def d89_1 : Option (List (List Nat)) := none
def l89_1 : List Nat := []
theorem cd89_1 : dOk d89_1 g89_1 l89_1 = true := by kernel_rfl
def c89 : AC := (.seq (.reg d89_0 g89_0) (.seq (.reg d89_1 g89_1) .ret))
def r89 : List RV := [.tmp 6]
theorem cc89 : (Try.f89.body.bind (cCode Try.prog Try.f89.ntmps)) = some c89 := by kernel_rfl
theorem cr89 : cRes Try.prog Try.f89.results.toList = some r89 := by kernel_rfl
theorem ca89 : callable Try.prog 89 = true := by kernel_rfl
def g93_0 : List G := [⟨(some 1), .box (.t 0), none⟩,
  ⟨(some 2), .mv (.c (.bool false)), none⟩]
def d93_0 : Option (List (List Nat)) := none
def l93_0 : List Nat := []
theorem cd93_0 : dOk d93_0 g93_0 l93_0 = true := by kernel_rfl
def g93_1 : List G := [⟨(some 3), .va 6 1 (.t 1), none⟩,
  ⟨(some 4), .call 75 [(.t 3), (.c (.func 116 []))], none⟩,
  ⟨(some 5), .un .not (.t 4), none⟩,
  ⟨(some 2), .mv (.t 5), none⟩]
def d93_1 : Option (List (List Nat)) := none
def l93_1 : List Nat := []
theorem cd93_1 : dOk d93_1 g93_1 l93_1 = true := by kernel_rfl
def c93 : AC := (.seq (.reg d93_0 g93_0) (.seq (.reg d93_1 g93_1) .ret))
def r93 : List RV := [.tmp 2]
theorem cc93 : (Try.f93.body.bind (cCode Try.prog Try.f93.ntmps)) = some c93 := by kernel_rfl
theorem cr93 : cRes Try.prog Try.f93.results.toList = some r93 := by kernel_rfl
theorem ca93 : callable Try.prog 93 = true := by kernel_rfl
def g94_0 : List G := [⟨(some 6), .mv (.c (.bool false)), none⟩]
def d94_0 : Option (List (List Nat)) := none
def l94_0 : List Nat := []
theorem cd94_0 : dOk d94_0 g94_0 l94_0 = true := by kernel_rfl
def g94_1 : List G := [⟨(some 7), .mv (.t 1), none⟩,
  ⟨(some 8), .mv (.t 0), none⟩,
  ⟨(some 9), .bin .leq (.t 7) (.t 8), none⟩,
  ⟨(some 10), .mv (.t 9), none⟩,
  ⟨(some 11), .mv (.t 0), some (10, true)⟩,
  ⟨(some 12), .mv (.t 2), some (10, true)⟩,
  ⟨(some 13), .bin .leq (.t 11) (.t 12), some (10, true)⟩,
  ⟨(some 14), .pick (.t 10) (.t 13) (.c (.bool false)), none⟩,
  ⟨(some 6), .mv (.t 14), none⟩]
def d94_1 : Option (List (List Nat)) := none
def l94_1 : List Nat := []
theorem cd94_1 : dOk d94_1 g94_1 l94_1 = true := by kernel_rfl
def c94 : AC := (.seq (.reg d94_0 g94_0) (.seq (.reg d94_1 g94_1) .ret))
def r94 : List RV := [.tmp 6]
theorem cc94 : (Try.f94.body.bind (cCode Try.prog Try.f94.ntmps)) = some c94 := by kernel_rfl
theorem cr94 : cRes Try.prog Try.f94.results.toList = some r94 := by kernel_rfl
theorem ca94 : callable Try.prog 94 = true := by kernel_rfl
def g95_0 : List G := [⟨(some 1), .box (.t 0), none⟩,
  ⟨(some 2), .mv (.c (.bool false)), none⟩]
def d95_0 : Option (List (List Nat)) := none
def l95_0 : List Nat := []
theorem cd95_0 : dOk d95_0 g95_0 l95_0 = true := by kernel_rfl
def g95_1 : List G := [⟨(some 6), .ld (some 5) (.t 1), none⟩,
  ⟨(some 7), .mv (.c (.int .i64 (0))), none⟩]
def d95_1 : Option (List (List Nat)) := none
def l95_1 : List Nat := []
theorem cd95_1 : dOk d95_1 g95_1 l95_1 = true := by kernel_rfl
def g95_2 : List G := [⟨(some 8), .bin .lss (.t 7) (.c (.int .i64 (5))), none⟩]
def d95_2 : Option (List (List Nat)) := none
def l95_2 : List Nat := []
theorem cd95_2 : dOk d95_2 g95_2 l95_2 = true := by kernel_rfl
def g95_3 : List G := [⟨(some 9), .mv (.t 7), none⟩,
  ⟨(some 10), .ix 5 1 none (.t 6) (.t 7), none⟩,
  ⟨(some 3), .mv (.t 9), none⟩,
  ⟨(some 4), .mv (.t 10), none⟩]
def d95_3 : Option (List (List Nat)) := none
def l95_3 : List Nat := []
theorem cd95_3 : dOk d95_3 g95_3 l95_3 = true := by kernel_rfl
def g95_4 : List G := [⟨(some 11), .mv (.t 4), none⟩,
  ⟨(some 5), .mv (.t 11), none⟩]
def d95_4 : Option (List (List Nat)) := none
def l95_4 : List Nat := []
theorem cd95_4 : dOk d95_4 g95_4 l95_4 = true := by kernel_rfl
def g95_5 : List G := [⟨(some 12), .mv (.t 5), none⟩,
  ⟨(some 13), .call 117 [(.t 12)], none⟩,
  ⟨(some 14), .un .not (.t 13), none⟩,
  ⟨(some 15), .mv (.t 14), none⟩,
  ⟨(some 16), .mv (.t 5), some (15, false)⟩,
  ⟨(some 17), .mv (.t 3), some (15, false)⟩,
  ⟨(some 18), .call 110 [(.t 16), (.t 17)], some (15, false)⟩,
  ⟨(some 19), .un .not (.t 18), some (15, false)⟩,
  ⟨(some 20), .pick (.t 15) (.c (.bool true)) (.t 19), none⟩]
def d95_5 : Option (List (List Nat)) := none
def l95_5 : List Nat := []
theorem cd95_5 : dOk d95_5 g95_5 l95_5 = true := by kernel_rfl
def g95_6 : List G := [⟨(some 2), .mv (.c (.bool false)), none⟩]
def d95_6 : Option (List (List Nat)) := none
def l95_6 : List Nat := []
theorem cd95_6 : dOk d95_6 g95_6 l95_6 = true := by kernel_rfl
def g95_7 : List G := [⟨(some 21), .bin .add (.t 7) (.c (.int .i64 (1))), none⟩,
  ⟨(some 7), .mv (.t 21), none⟩]
def d95_7 : Option (List (List Nat)) := none
def l95_7 : List Nat := []
theorem cd95_7 : dOk d95_7 g95_7 l95_7 = true := by kernel_rfl
def g95_8 : List G := [⟨(some 2), .mv (.c (.bool true)), none⟩]
def d95_8 : Option (List (List Nat)) := none
def l95_8 : List Nat := []
theorem cd95_8 : dOk d95_8 g95_8 l95_8 = true := by kernel_rfl
def c95 : AC := (.seq (.reg d95_0 g95_0) (.seq (.seq (.reg d95_1 g95_1) (.block 0 (.loop (.seq (.reg d95_2 g95_2) (.seq (.cond (.t 8) .skip (.exit 0)) (.seq (.block 1 (.seq (.reg d95_3 g95_3) (.seq (.reg d95_4 g95_4) (.seq (.reg d95_5 g95_5) (.cond (.t 20) (.seq (.reg d95_6 g95_6) .ret) .skip))))) (.reg d95_7 g95_7))))))) (.seq (.reg d95_8 g95_8) .ret)))
def r95 : List RV := [.tmp 2]
theorem cc95 : (Try.f95.body.bind (cCode Try.prog Try.f95.ntmps)) = some c95 := by kernel_rfl
theorem cr95 : cRes Try.prog Try.f95.results.toList = some r95 := by kernel_rfl
theorem ca95 : callable Try.prog 95 = true := by kernel_rfl
def g96_0 : List G := [⟨(some 1), .box (.t 0), none⟩,
  ⟨(some 2), .mv (.c (.bool false)), none⟩]
def d96_0 : Option (List (List Nat)) := none
def l96_0 : List Nat := []
theorem cd96_0 : dOk d96_0 g96_0 l96_0 = true := by kernel_rfl
def g96_1 : List G := [⟨(some 3), .va 6 1 (.t 1), none⟩,
  ⟨(some 4), .call 75 [(.t 3), (.c (.func 118 []))], none⟩,
  ⟨(some 5), .un .not (.t 4), none⟩,
  ⟨(some 2), .mv (.t 5), none⟩]
def d96_1 : Option (List (List Nat)) := none
def l96_1 : List Nat := []
theorem cd96_1 : dOk d96_1 g96_1 l96_1 = true := by kernel_rfl
def c96 : AC := (.seq (.reg d96_0 g96_0) (.seq (.reg d96_1 g96_1) .ret))
def r96 : List RV := [.tmp 2]
theorem cc96 : (Try.f96.body.bind (cCode Try.prog Try.f96.ntmps)) = some c96 := by kernel_rfl
theorem cr96 : cRes Try.prog Try.f96.results.toList = some r96 := by kernel_rfl
theorem ca96 : callable Try.prog 96 = true := by kernel_rfl
def g97_0 : List G := [⟨(some 2), .mv (.c (.bool false)), none⟩]
def d97_0 : Option (List (List Nat)) := none
def l97_0 : List Nat := []
theorem cd97_0 : dOk d97_0 g97_0 l97_0 = true := by kernel_rfl
def g97_1 : List G := [⟨(some 3), .mv (.t 0), none⟩,
  ⟨(some 4), .call 89 [(.t 3), (.c (.int .i64 (1))), (.c (.int .i64 (99)))], none⟩,
  ⟨(some 2), .mv (.t 4), none⟩]
def d97_1 : Option (List (List Nat)) := none
def l97_1 : List Nat := []
theorem cd97_1 : dOk d97_1 g97_1 l97_1 = true := by kernel_rfl
def c97 : AC := (.seq (.reg d97_0 g97_0) (.seq (.reg d97_1 g97_1) .ret))
def r97 : List RV := [.tmp 2]
theorem cc97 : (Try.f97.body.bind (cCode Try.prog Try.f97.ntmps)) = some c97 := by kernel_rfl
theorem cr97 : cRes Try.prog Try.f97.results.toList = some r97 := by kernel_rfl
theorem ca97 : callable Try.prog 97 = true := by kernel_rfl
def g98_0 : List G := [⟨(some 3), .box (.t 0), none⟩,
  ⟨(some 5), .box (.t 2), none⟩,
  ⟨(some 6), .mv (.c (.bool false)), none⟩]
def d98_0 : Option (List (List Nat)) := none
def l98_0 : List Nat := []
theorem cd98_0 : dOk d98_0 g98_0 l98_0 = true := by kernel_rfl
def g98_1 : List G := [⟨(some 7), .mv (.t 1), none⟩,
  ⟨(some 8), .mk 120 [(.t 3), (.t 5)], none⟩,
  ⟨(some 9), .call 119 [(.t 7), (.t 8)], none⟩,
  ⟨(some 10), .un .not (.t 9), none⟩,
  ⟨(some 6), .mv (.t 10), none⟩]
def d98_1 : Option (List (List Nat)) := none
def l98_1 : List Nat := []
theorem cd98_1 : dOk d98_1 g98_1 l98_1 = true := by kernel_rfl
def c98 : AC := (.seq (.reg d98_0 g98_0) (.seq (.reg d98_1 g98_1) .ret))
def r98 : List RV := [.tmp 6]
theorem cc98 : (Try.f98.body.bind (cCode Try.prog Try.f98.ntmps)) = some c98 := by kernel_rfl
theorem cr98 : cRes Try.prog Try.f98.results.toList = some r98 := by kernel_rfl
theorem ca98 : callable Try.prog 98 = true := by kernel_rfl
def g99_0 : List G := [⟨(some 3), .box (.t 0), none⟩,
  ⟨(some 4), .box (.t 1), none⟩,
  ⟨(some 5), .box (.t 2), none⟩,
  ⟨(some 6), .mv (.c (.int .i64 (0))), none⟩]
def d99_0 : Option (List (List Nat)) := none
def l99_0 : List Nat := []
theorem cd99_0 : dOk d99_0 g99_0 l99_0 = true := by kernel_rfl
def g99_1 : List G := [⟨(some 7), .mv (.c (.int .i64 (0))), none⟩]
def d99_1 : Option (List (List Nat)) := none
def l99_1 : List Nat := []
theorem cd99_1 : dOk d99_1 g99_1 l99_1 = true := by kernel_rfl
def g99_2 : List G := [⟨(some 8), .mv (.c (.int .i64 (0))), none⟩]
def d99_2 : Option (List (List Nat)) := none
def l99_2 : List Nat := []
theorem cd99_2 : dOk d99_2 g99_2 l99_2 = true := by kernel_rfl
def g99_3 : List G := [⟨(some 9), .mv (.t 8), none⟩,
  ⟨(some 10), .bin .lss (.t 9) (.c (.int .i64 (6))), none⟩]
def d99_3 : Option (List (List Nat)) := none
def l99_3 : List Nat := []
theorem cd99_3 : dOk d99_3 g99_3 l99_3 = true := by kernel_rfl
def g99_4 : List G := [⟨(some 13), .mv (.t 8), none⟩,
  ⟨(some 14), .ia 6 1 (.t 4) (.t 13), none⟩,
  ⟨(some 15), .ld none (.t 14), none⟩,
  ⟨(some 16), .ia 5 1 (.t 3) (.t 15), none⟩,
  ⟨(some 17), .ld none (.t 16), none⟩,
  ⟨(some 18), .mv (.t 8), none⟩,
  ⟨(some 19), .ia 6 1 (.t 5) (.t 18), none⟩,
  ⟨(some 20), .ld none (.t 19), none⟩,
  ⟨(some 21), .ia 5 1 (.t 3) (.t 20), none⟩,
  ⟨(some 22), .ld none (.t 21), none⟩,
  ⟨(some 23), .bin .and (.t 17) (.t 22), none⟩,
  ⟨(some 24), .bin .eql (.t 23) (.c (.int .i64 (0))), none⟩]
def d99_4 : Option (List (List Nat)) := (some [[], [0], [1], [2], [3], [], [5], [6], [7], [8], [4, 9], [10]])
def l99_4 : List Nat := [0, 1, 3, 7, 15, 0, 32, 96, 224, 480, 1023, 2047]
theorem cd99_4 : dOk d99_4 g99_4 l99_4 = true := by kernel_rfl
def g99_5 : List G := [⟨(some 25), .mv (.t 7), none⟩,
  ⟨(some 26), .bin .add (.t 25) (.c (.int .i64 (1))), none⟩,
  ⟨(some 7), .mv (.t 26), none⟩]
def d99_5 : Option (List (List Nat)) := none
def l99_5 : List Nat := []
theorem cd99_5 : dOk d99_5 g99_5 l99_5 = true := by kernel_rfl
def g99_6 : List G := [⟨(some 11), .mv (.t 8), none⟩,
  ⟨(some 12), .bin .add (.t 11) (.c (.int .i64 (1))), none⟩,
  ⟨(some 8), .mv (.t 12), none⟩]
def d99_6 : Option (List (List Nat)) := none
def l99_6 : List Nat := []
theorem cd99_6 : dOk d99_6 g99_6 l99_6 = true := by kernel_rfl
def g99_7 : List G := [⟨(some 27), .mv (.t 7), none⟩,
  ⟨(some 6), .mv (.t 27), none⟩]
def d99_7 : Option (List (List Nat)) := none
def l99_7 : List Nat := []
theorem cd99_7 : dOk d99_7 g99_7 l99_7 = true := by kernel_rfl
def c99 : AC := (.seq (.reg d99_0 g99_0) (.seq (.reg d99_1 g99_1) (.seq (.seq (.reg d99_2 g99_2) (.block 0 (.loop (.seq (.seq (.reg d99_3 g99_3) (.cond (.t 10) .skip (.exit 0))) (.seq (.block 1 (.seq (.reg d99_4 g99_4) (.cond (.t 24) (.reg d99_5 g99_5) .skip))) (.reg d99_6 g99_6)))))) (.seq (.reg d99_7 g99_7) .ret))))
def r99 : List RV := [.tmp 6]
theorem cc99 : (Try.f99.body.bind (cCode Try.prog Try.f99.ntmps)) = some c99 := by kernel_rfl
theorem cr99 : cRes Try.prog Try.f99.results.toList = some r99 := by kernel_rfl
theorem ca99 : callable Try.prog 99 = true := by kernel_rfl
def g101_0 : List G := [⟨(some 0), .mv (.c (.nilf)), none⟩]
def d101_0 : Option (List (List Nat)) := none
def l101_0 : List Nat := []
theorem cd101_0 : dOk d101_0 g101_0 l101_0 = true := by kernel_rfl
def g101_1 : List G := [⟨(some 0), .mv (.c (.func 121 [])), none⟩]
def d101_1 : Option (List (List Nat)) := none
def l101_1 : List Nat := []
theorem cd101_1 : dOk d101_1 g101_1 l101_1 = true := by kernel_rfl
def c101 : AC := (.seq (.reg d101_0 g101_0) (.seq (.reg d101_1 g101_1) .ret))
def r101 : List RV := [.tmp 0]
theorem cc101 : (Try.f101.body.bind (cCode Try.prog Try.f101.ntmps)) = some c101 := by kernel_rfl
theorem cr101 : cRes Try.prog Try.f101.results.toList = some r101 := by kernel_rfl
theorem ca101 : callable Try.prog 101 = true := by kernel_rfl
def g105_0 : List G := [⟨(some 3), .box (.t 0), none⟩,
  ⟨(some 4), .mv (.c (.bool false)), none⟩]
def d105_0 : Option (List (List Nat)) := none
def l105_0 : List Nat := []
theorem cd105_0 : dOk d105_0 g105_0 l105_0 = true := by kernel_rfl
def g105_1 : List G := [⟨(some 5), .fa 0 0 (.t 1), none⟩,
  ⟨(some 6), .ld (some 5) (.t 5), none⟩,
  ⟨(some 7), .fa 1 1 (.t 3), none⟩,
  ⟨(some 8), .ld (some 6) (.t 7), none⟩,
  ⟨(some 9), .ld (some 6) (.t 2), none⟩,
  ⟨(some 10), .call 88 [(.t 6), (.t 8), (.t 9)], none⟩,
  ⟨(some 11), .fa 1 5 (.t 1), none⟩,
  ⟨(some 12), .ld none (.t 11), none⟩,
  ⟨(some 13), .bin .gtr (.t 10) (.t 12), none⟩,
  ⟨(some 4), .mv (.t 13), none⟩]
def d105_1 : Option (List (List Nat)) := (some [[], [0], [], [2], [], [1, 3, 4], [], [6], [5, 7], [8, 5, 0, 1, 2, 3, 4, 5, 6, 7, 8]])
def l105_1 : List Nat := [0, 1, 0, 4, 0, 31, 0, 64, 255, 511]
theorem cd105_1 : dOk d105_1 g105_1 l105_1 = true := by kernel_rfl
def c105 : AC := (.seq (.reg d105_0 g105_0) (.seq (.reg d105_1 g105_1) .ret))
def r105 : List RV := [.tmp 4]
theorem cc105 : (Try.f105.body.bind (cCode Try.prog Try.f105.ntmps)) = some c105 := by kernel_rfl
theorem cr105 : cRes Try.prog Try.f105.results.toList = some r105 := by kernel_rfl
theorem ca105 : callable Try.prog 105 = true := by kernel_rfl
def g106_0 : List G := [⟨(some 4), .mv (.c (.int .i64 (0))), none⟩]
def d106_0 : Option (List (List Nat)) := none
def l106_0 : List Nat := []
theorem cd106_0 : dOk d106_0 g106_0 l106_0 = true := by kernel_rfl
def g106_1 : List G := [⟨(some 7), .mv (.t 0), none⟩,
  ⟨(some 8), .call 123 [(.t 7)], none⟩,
  ⟨(some 5), .mv (.t 8), none⟩]
def d106_1 : Option (List (List Nat)) := none
def l106_1 : List Nat := []
theorem cd106_1 : dOk d106_1 g106_1 l106_1 = true := by kernel_rfl
def g106_2 : List G := [⟨(some 9), .mv (.t 1), none⟩,
  ⟨(some 10), .call 123 [(.t 9)], none⟩,
  ⟨(some 6), .mv (.t 10), none⟩]
def d106_2 : Option (List (List Nat)) := none
def l106_2 : List Nat := []
theorem cd106_2 : dOk d106_2 g106_2 l106_2 = true := by kernel_rfl
def g106_3 : List G := [⟨(some 11), .mv (.t 5), none⟩]
def d106_3 : Option (List (List Nat)) := none
def l106_3 : List Nat := []
theorem cd106_3 : dOk d106_3 g106_3 l106_3 = true := by kernel_rfl
def g106_4 : List G := [⟨(some 12), .mv (.t 6), none⟩]
def d106_4 : Option (List (List Nat)) := none
def g106_5 : List G := [⟨(some 4), .mv (.c (.int .i64 (0))), none⟩]
def d106_5 : Option (List (List Nat)) := none
def g106_6 : List G := [⟨(some 4), .mv (.c (.int .i64 (-1))), none⟩]
def d106_6 : Option (List (List Nat)) := none
def g106_7 : List G := [⟨(some 13), .mv (.t 6), none⟩]
def d106_7 : Option (List (List Nat)) := none
def l106_7 : List Nat := []
theorem cd106_7 : dOk d106_7 g106_7 l106_7 = true := by kernel_rfl
def g106_8 : List G := [⟨(some 4), .mv (.c (.int .i64 (1))), none⟩]
def d106_8 : Option (List (List Nat)) := none
def g106_9 : List G := [⟨(some 14), .mv (.t 0), none⟩,
  ⟨(some 15), .mv (.t 1), none⟩,
  ⟨(some 16), .bin .lss (.t 14) (.t 15), none⟩]
def d106_9 : Option (List (List Nat)) := none
def l106_9 : List Nat := []
theorem cd106_9 : dOk d106_9 g106_9 l106_9 = true := by kernel_rfl
def g106_10 : List G := [⟨(some 4), .mv (.c (.int .i64 (-1))), none⟩]
def d106_10 : Option (List (List Nat)) := none
def l106_10 : List Nat := []
theorem cd106_10 : dOk d106_10 g106_10 l106_10 = true := by kernel_rfl
def g106_11 : List G := [⟨(some 17), .mv (.t 0), none⟩,
  ⟨(some 18), .mv (.t 1), none⟩,
  ⟨(some 19), .bin .gtr (.t 17) (.t 18), none⟩]
def d106_11 : Option (List (List Nat)) := none
def l106_11 : List Nat := []
theorem cd106_11 : dOk d106_11 g106_11 l106_11 = true := by kernel_rfl
def g106_12 : List G := [⟨(some 4), .mv (.c (.int .i64 (1))), none⟩]
def d106_12 : Option (List (List Nat)) := none
def l106_12 : List Nat := []
theorem cd106_12 : dOk d106_12 g106_12 l106_12 = true := by kernel_rfl
def g106_13 : List G := [⟨(some 4), .mv (.c (.int .i64 (0))), none⟩]
def d106_13 : Option (List (List Nat)) := none
def l106_13 : List Nat := []
theorem cd106_13 : dOk d106_13 g106_13 l106_13 = true := by kernel_rfl
def c106 : AC := (.seq (.reg d106_0 g106_0) (.seq (.reg d106_1 g106_1) (.seq (.reg d106_2 g106_2) (.seq (.seq (.reg d106_3 g106_3) (.cond (.t 11) (.seq (.seq (.reg d106_4 g106_4) (.cond (.t 12) (.seq (.reg d106_5 g106_5) .ret) .skip)) (.seq (.reg d106_6 g106_6) .ret)) .skip)) (.seq (.seq (.reg d106_7 g106_7) (.cond (.t 13) (.seq (.reg d106_8 g106_8) .ret) .skip)) (.seq (.seq (.reg d106_9 g106_9) (.cond (.t 16) (.seq (.reg d106_10 g106_10) .ret) .skip)) (.seq (.seq (.reg d106_11 g106_11) (.cond (.t 19) (.seq (.reg d106_12 g106_12) .ret) .skip)) (.seq (.reg d106_13 g106_13) .ret))))))))
def r106 : List RV := [.tmp 4]
theorem cc106 : (Try.f106.body.bind (cCode Try.prog Try.f106.ntmps)) = some c106 := by kernel_rfl
theorem cr106 : cRes Try.prog Try.f106.results.toList = some r106 := by kernel_rfl
theorem ca106 : callable Try.prog 106 = true := by kernel_rfl
def g107_0 : List G := [⟨(some 5), .mv (.c (.bool false)), none⟩]
def d107_0 : Option (List (List Nat)) := none
def l107_0 : List Nat := []
theorem cd107_0 : dOk d107_0 g107_0 l107_0 = true := by kernel_rfl
def g107_1 : List G := [⟨(some 6), .ld (some 5) (.t 1), none⟩,
  ⟨(some 7), .fa 1 1 (.t 2), none⟩,
  ⟨(some 8), .ld (some 6) (.t 7), none⟩,
  ⟨(some 9), .mv (.t 0), none⟩,
  ⟨(some 10), .call 77 [(.t 6), (.t 8), (.t 9)], none⟩,
  ⟨(some 11), .ld (some 5) (.t 1), none⟩,
  ⟨(some 12), .fa 1 1 (.t 3), none⟩,
  ⟨(some 13), .ld (some 6) (.t 12), none⟩,
  ⟨(some 14), .mv (.t 0), none⟩,
  ⟨(some 15), .call 77 [(.t 11), (.t 13), (.t 14)], none⟩,
  ⟨(some 16), .call 78 [(.t 10), (.t 15)], none⟩,
  ⟨(some 17), .un .not (.t 16), none⟩,
  ⟨(some 5), .mv (.t 17), none⟩]
def d107_1 : Option (List (List Nat)) := (some [[], [], [1], [], [0, 2, 3], [], [], [6], [], [5, 7, 8, 4], [4, 9, 9], [10], [11, 10, 0, 1, 2, 3, 4, 5, 6, 7, 8, 9, 10, 11]])
def l107_1 : List Nat := [0, 0, 2, 0, 15, 0, 0, 64, 0, 511, 1023, 2047, 4095]
theorem cd107_1 : dOk d107_1 g107_1 l107_1 = true := by kernel_rfl
def c107 : AC := (.seq (.reg d107_0 g107_0) (.seq (.reg d107_1 g107_1) .ret))
def r107 : List RV := [.tmp 5]
theorem cc107 : (Try.f107.body.bind (cCode Try.prog Try.f107.ntmps)) = some c107 := by kernel_rfl
theorem cr107 : cRes Try.prog Try.f107.results.toList = some r107 := by kernel_rfl
theorem ca107 : callable Try.prog 107 = true := by kernel_rfl
def g108_0 : List G := [⟨(some 4), .mv (.c (.int .i64 (0))), none⟩]
def d108_0 : Option (List (List Nat)) := none
def l108_0 : List Nat := []
theorem cd108_0 : dOk d108_0 g108_0 l108_0 = true := by kernel_rfl
def g108_1 : List G := [⟨(some 6), .mv (.t 0), none⟩,
  ⟨(some 7), .len (.t 6), none⟩,
  ⟨(some 8), .mv (.c (.int .i64 (0))), none⟩]
def d108_1 : Option (List (List Nat)) := none
def l108_1 : List Nat := []
theorem cd108_1 : dOk d108_1 g108_1 l108_1 = true := by kernel_rfl
def g108_2 : List G := [⟨(some 9), .bin .lss (.t 8) (.t 7), none⟩]
def d108_2 : Option (List (List Nat)) := none
def l108_2 : List Nat := []
theorem cd108_2 : dOk d108_2 g108_2 l108_2 = true := by kernel_rfl
def g108_3 : List G := [⟨(some 10), .mv (.t 8), none⟩,
  ⟨(some 5), .mv (.t 10), none⟩]
def d108_3 : Option (List (List Nat)) := none
def l108_3 : List Nat := []
theorem cd108_3 : dOk d108_3 g108_3 l108_3 = true := by kernel_rfl
def g108_4 : List G := [⟨(some 11), .mv (.t 1), none⟩,
  ⟨(some 12), .mv (.t 0), none⟩,
  ⟨(some 13), .mv (.t 5), none⟩,
  ⟨(some 14), .is 7 (.t 12) (.t 13), none⟩,
  ⟨(some 15), .ld (some 7) (.t 14), none⟩,
  ⟨(some 16), .callv (.t 11) [(.t 15)], none⟩]
def d108_4 : Option (List (List Nat)) := none
def l108_4 : List Nat := []
theorem cd108_4 : dOk d108_4 g108_4 l108_4 = true := by kernel_rfl
def g108_5 : List G := [⟨(some 17), .mv (.t 5), none⟩,
  ⟨(some 4), .mv (.t 17), none⟩]
def d108_5 : Option (List (List Nat)) := none
def l108_5 : List Nat := []
theorem cd108_5 : dOk d108_5 g108_5 l108_5 = true := by kernel_rfl
def g108_6 : List G := [⟨(some 18), .bin .add (.t 8) (.c (.int .i64 (1))), none⟩,
  ⟨(some 8), .mv (.t 18), none⟩]
def d108_6 : Option (List (List Nat)) := none
def l108_6 : List Nat := []
theorem cd108_6 : dOk d108_6 g108_6 l108_6 = true := by kernel_rfl
def g108_7 : List G := [⟨(some 4), .mv (.c (.int .i64 (-1))), none⟩]
def d108_7 : Option (List (List Nat)) := none
def l108_7 : List Nat := []
theorem cd108_7 : dOk d108_7 g108_7 l108_7 = true := by kernel_rfl
def c108 : AC := (.seq (.reg d108_0 g108_0) (.seq (.seq (.reg d108_1 g108_1) (.block 0 (.loop (.seq (.reg d108_2 g108_2) (.seq (.cond (.t 9) .skip (.exit 0)) (.seq (.block 1 (.seq (.reg d108_3 g108_3) (.seq (.reg d108_4 g108_4) (.cond (.t 16) (.seq (.reg d108_5 g108_5) .ret) .skip)))) (.reg d108_6 g108_6))))))) (.seq (.reg d108_7 g108_7) .ret)))
def r108 : List RV := [.tmp 4]
theorem cc108 : (Try.f108.body.bind (cCode Try.prog Try.f108.ntmps)) = some c108 := by kernel_rfl
theorem cr108 : cRes Try.prog Try.f108.results.toList = some r108 := by kernel_rfl
theorem ca108 : callable Try.prog 108 = true := by kernel_rfl
def g109_0 : List G := [⟨(some 4), .mv (.c (.int .i64 (0))), none⟩]
def d109_0 : Option (List (List Nat)) := none
def l109_0 : List Nat := []
theorem cd109_0 : dOk d109_0 g109_0 l109_0 = true := by kernel_rfl
def g109_1 : List G := [⟨(some 6), .mv (.t 0), none⟩,
  ⟨(some 7), .len (.t 6), none⟩,
  ⟨(some 8), .mv (.c (.int .i64 (0))), none⟩]
def d109_1 : Option (List (List Nat)) := none
def l109_1 : List Nat := []
theorem cd109_1 : dOk d109_1 g109_1 l109_1 = true := by kernel_rfl
def g109_2 : List G := [⟨(some 9), .bin .lss (.t 8) (.t 7), none⟩]
def d109_2 : Option (List (List Nat)) := none
def l109_2 : List Nat := []
theorem cd109_2 : dOk d109_2 g109_2 l109_2 = true := by kernel_rfl
def g109_3 : List G := [⟨(some 10), .mv (.t 8), none⟩,
  ⟨(some 5), .mv (.t 10), none⟩]
def d109_3 : Option (List (List Nat)) := none
def l109_3 : List Nat := []
theorem cd109_3 : dOk d109_3 g109_3 l109_3 = true := by kernel_rfl
def g109_4 : List G := [⟨(some 11), .mv (.t 1), none⟩,
  ⟨(some 12), .mv (.t 0), none⟩,
  ⟨(some 13), .mv (.t 5), none⟩,
  ⟨(some 14), .is 1 (.t 12) (.t 13), none⟩,
  ⟨(some 15), .ld none (.t 14), none⟩,
  ⟨(some 16), .callv (.t 11) [(.t 15)], none⟩]
def d109_4 : Option (List (List Nat)) := none
def l109_4 : List Nat := []
theorem cd109_4 : dOk d109_4 g109_4 l109_4 = true := by kernel_rfl
def g109_5 : List G := [⟨(some 17), .mv (.t 5), none⟩,
  ⟨(some 4), .mv (.t 17), none⟩]
def d109_5 : Option (List (List Nat)) := none
def l109_5 : List Nat := []
theorem cd109_5 : dOk d109_5 g109_5 l109_5 = true := by kernel_rfl
def g109_6 : List G := [⟨(some 18), .bin .add (.t 8) (.c (.int .i64 (1))), none⟩,
  ⟨(some 8), .mv (.t 18), none⟩]
def d109_6 : Option (List (List Nat)) := none
def l109_6 : List Nat := []
theorem cd109_6 : dOk d109_6 g109_6 l109_6 = true := by kernel_rfl
def g109_7 : List G := [⟨(some 4), .mv (.c (.int .i64 (-1))), none⟩]
def d109_7 : Option (List (List Nat)) := none
def l109_7 : List Nat := []
theorem cd109_7 : dOk d109_7 g109_7 l109_7 = true := by kernel_rfl
def c109 : AC := (.seq (.reg d109_0 g109_0) (.seq (.seq (.reg d109_1 g109_1) (.block 0 (.loop (.seq (.reg d109_2 g109_2) (.seq (.cond (.t 9) .skip (.exit 0)) (.seq (.block 1 (.seq (.reg d109_3 g109_3) (.seq (.reg d109_4 g109_4) (.cond (.t 16) (.seq (.reg d109_5 g109_5) .ret) .skip)))) (.reg d109_6 g109_6))))))) (.seq (.reg d109_7 g109_7) .ret)))
def r109 : List RV := [.tmp 4]
theorem cc109 : (Try.f109.body.bind (cCode Try.prog Try.f109.ntmps)) = some c109 := by kernel_rfl
theorem cr109 : cRes Try.prog Try.f109.results.toList = some r109 := by kernel_rfl
theorem ca109 : callable Try.prog 109 = true := by kernel_rfl
def g110_0 : List G := [⟨(some 4), .mv (.c (.bool false)), none⟩]
def d110_0 : Option (List (List Nat)) := none
def l110_0 : List Nat := []
theorem cd110_0 : dOk d110_0 g110_0 l110_0 = true := by kernel_rfl
def g110_1 : List G := [⟨(some 5), .mv (.t 0), none⟩,
  ⟨(some 6), .mv (.t 1), none⟩,
  ⟨(some 7), .bin .shr (.t 5) (.t 6), none⟩,
  ⟨(some 8), .bin .and (.t 7) (.c (.int .i64 (1))), none⟩,
  ⟨(some 9), .bin .eql (.t 8) (.c (.int .i64 (1))), none⟩,
  ⟨(some 4), .mv (.t 9), none⟩]
def d110_1 : Option (List (List Nat)) := none
def l110_1 : List Nat := []
theorem cd110_1 : dOk d110_1 g110_1 l110_1 = true := by kernel_rfl
def c110 : AC := (.seq (.reg d110_0 g110_0) (.seq (.reg d110_1 g110_1) .ret))
def r110 : List RV := [.tmp 4]
theorem cc110 : (Try.f110.body.bind (cCode Try.prog Try.f110.ntmps)) = some c110 := by kernel_rfl
theorem cr110 : cRes Try.prog Try.f110.results.toList = some r110 := by kernel_rfl
theorem ca110 : callable Try.prog 110 = true := by kernel_rfl
def g111_0 : List G := [⟨(some 2), .mv (.c (.int .i64 (0))), none⟩]
def d111_0 : Option (List (List Nat)) := none
def l111_0 : List Nat := []
theorem cd111_0 : dOk d111_0 g111_0 l111_0 = true := by kernel_rfl
def g111_1 : List G := [⟨(some 3), .mv (.c (.int .i64 (0))), none⟩]
def d111_1 : Option (List (List Nat)) := none
def l111_1 : List Nat := []
theorem cd111_1 : dOk d111_1 g111_1 l111_1 = true := by kernel_rfl
def g111_2 : List G := [⟨(some 5), .mv (.c (.int .i64 (0))), none⟩]
def d111_2 : Option (List (List Nat)) := none
def l111_2 : List Nat := []
theorem cd111_2 : dOk d111_2 g111_2 l111_2 = true := by kernel_rfl
def g111_3 : List G := [⟨(some 6), .bin .lss (.t 5) (.c (.int .i64 (6))), none⟩]
def d111_3 : Option (List (List Nat)) := none
def l111_3 : List Nat := []
theorem cd111_3 : dOk d111_3 g111_3 l111_3 = true := by kernel_rfl
def g111_4 : List G := [⟨(some 7), .mv (.t 5), none⟩,
  ⟨(some 4), .mv (.t 7), none⟩]
def d111_4 : Option (List (List Nat)) := none
def l111_4 : List Nat := []
theorem cd111_4 : dOk d111_4 g111_4 l111_4 = true := by kernel_rfl
def g111_5 : List G := [⟨(some 8), .mv (.t 0), none⟩,
  ⟨(some 9), .mv (.t 4), none⟩,
  ⟨(some 10), .callv (.t 8) [(.t 9)], none⟩,
  ⟨(some 11), .un .not (.t 10), none⟩]
def d111_5 : Option (List (List Nat)) := none
def l111_5 : List Nat := []
theorem cd111_5 : dOk d111_5 g111_5 l111_5 = true := by kernel_rfl
def g111_6 : List G := [⟨(some 12), .mv (.t 3), none⟩,
  ⟨(some 13), .bin .add (.t 12) (.c (.int .i64 (1))), none⟩,
  ⟨(some 3), .mv (.t 13), none⟩]
def d111_6 : Option (List (List Nat)) := none
def l111_6 : List Nat := []
theorem cd111_6 : dOk d111_6 g111_6 l111_6 = true := by kernel_rfl
def g111_7 : List G := [⟨(some 14), .bin .add (.t 5) (.c (.int .i64 (1))), none⟩,
  ⟨(some 5), .mv (.t 14), none⟩]
def d111_7 : Option (List (List Nat)) := none
def l111_7 : List Nat := []
theorem cd111_7 : dOk d111_7 g111_7 l111_7 = true := by kernel_rfl
def g111_8 : List G := [⟨(some 15), .mv (.t 3), none⟩,
  ⟨(some 2), .mv (.t 15), none⟩]
def d111_8 : Option (List (List Nat)) := none
def l111_8 : List Nat := []
theorem cd111_8 : dOk d111_8 g111_8 l111_8 = true := by kernel_rfl
def c111 : AC := (.seq (.reg d111_0 g111_0) (.seq (.reg d111_1 g111_1) (.seq (.seq (.reg d111_2 g111_2) (.block 0 (.loop (.seq (.reg d111_3 g111_3) (.seq (.cond (.t 6) .skip (.exit 0)) (.seq (.block 1 (.seq (.reg d111_4 g111_4) (.seq (.reg d111_5 g111_5) (.cond (.t 11) (.reg d111_6 g111_6) .skip)))) (.reg d111_7 g111_7))))))) (.seq (.reg d111_8 g111_8) .ret))))
def r111 : List RV := [.tmp 2]
theorem cc111 : (Try.f111.body.bind (cCode Try.prog Try.f111.ntmps)) = some c111 := by kernel_rfl
theorem cr111 : cRes Try.prog Try.f111.results.toList = some r111 := by kernel_rfl
theorem ca111 : callable Try.prog 111 = true := by kernel_rfl
def g112_0 : List G := [⟨(some 6), .mv (.c (.bool false)), none⟩]
def d112_0 : Option (List (List Nat)) := none
def l112_0 : List Nat := []
theorem cd112_0 : dOk d112_0 g112_0 l112_0 = true := by kernel_rfl
def g112_1 : List G := [⟨(some 7), .ld none (.t 1), none⟩,
  ⟨(some 8), .ld (some 5) (.t 2), none⟩,
  ⟨(some 9), .ld (some 6) (.t 3), none⟩,
  ⟨(some 10), .mv (.t 0), none⟩,
  ⟨(some 11), .call 77 [(.t 8), (.t 9), (.t 10)], none⟩,
  ⟨(some 12), .ld (some 5) (.t 2), none⟩,
  ⟨(some 13), .ld (some 6) (.t 4), none⟩,
  ⟨(some 14), .mv (.t 0), none⟩,
  ⟨(some 15), .call 77 [(.t 12), (.t 13), (.t 14)], none⟩,
  ⟨(some 16), .callv (.t 7) [(.t 11), (.t 15)], none⟩,
  ⟨(some 6), .mv (.t 16), none⟩]
def d112_1 : Option (List (List Nat)) := (some [[], [], [], [], [1, 2, 3], [], [], [], [5, 6, 7, 4], [0, 4, 8, 8], [9, 9, 0, 1, 2, 3, 4, 5, 6, 7, 8, 9]])
def l112_1 : List Nat := [0, 0, 0, 0, 14, 0, 0, 0, 254, 511, 1023]
theorem cd112_1 : dOk d112_1 g112_1 l112_1 = true := by kernel_rfl
def c112 : AC := (.seq (.reg d112_0 g112_0) (.seq (.reg d112_1 g112_1) .ret))
def r112 : List RV := [.tmp 6]
theorem cc112 : (Try.f112.body.bind (cCode Try.prog Try.f112.ntmps)) = some c112 := by kernel_rfl
theorem cr112 : cRes Try.prog Try.f112.results.toList = some r112 := by kernel_rfl
theorem ca112 : callable Try.prog 112 = true := by kernel_rfl
def g113_0 : List G := [⟨(some 6), .mv (.c (.bool false)), none⟩]
def d113_0 : Option (List (List Nat)) := none
def l113_0 : List Nat := []
theorem cd113_0 : dOk d113_0 g113_0 l113_0 = true := by kernel_rfl
def g113_1 : List G := [⟨(some 7), .ld none (.t 1), none⟩,
  ⟨(some 8), .ld (some 5) (.t 2), none⟩,
  ⟨(some 9), .ld (some 6) (.t 3), none⟩,
  ⟨(some 10), .mv (.t 0), none⟩,
  ⟨(some 11), .call 77 [(.t 8), (.t 9), (.t 10)], none⟩,
  ⟨(some 12), .mv (.t 0), none⟩,
  ⟨(some 13), .ia 6 1 (.t 4) (.t 12), none⟩,
  ⟨(some 14), .ld none (.t 13), none⟩,
  ⟨(some 15), .callv (.t 7) [(.t 11), (.t 14)], none⟩,
  ⟨(some 6), .mv (.t 15), none⟩]
def d113_1 : Option (List (List Nat)) := (some [[], [], [], [], [1, 2, 3], [], [5], [6], [0, 4, 7, 4], [8, 8, 0, 1, 2, 3, 4, 5, 6, 7, 8]])
def l113_1 : List Nat := [0, 0, 0, 0, 14, 0, 32, 96, 255, 511]
theorem cd113_1 : dOk d113_1 g113_1 l113_1 = true := by kernel_rfl
def c113 : AC := (.seq (.reg d113_0 g113_0) (.seq (.reg d113_1 g113_1) .ret))
def r113 : List RV := [.tmp 6]
theorem cc113 : (Try.f113.body.bind (cCode Try.prog Try.f113.ntmps)) = some c113 := by kernel_rfl
theorem cr113 : cRes Try.prog Try.f113.results.toList = some r113 := by kernel_rfl
theorem ca113 : callable Try.prog 113 = true := by kernel_rfl
def g116_0 : List G := [⟨(some 2), .mv (.c (.bool false)), none⟩]
def d116_0 : Option (List (List Nat)) := none
def l116_0 : List Nat := []
theorem cd116_0 : dOk d116_0 g116_0 l116_0 = true := by kernel_rfl
def g116_1 : List G := [⟨(some 3), .mv (.t 0), none⟩,
  ⟨(some 4), .call 89 [(.t 3), (.c (.int .i64 (0))), (.c (.int .i64 (4)))], none⟩,
  ⟨(some 5), .un .not (.t 4), none⟩,
  ⟨(some 2), .mv (.t 5), none⟩]
def d116_1 : Option (List (List Nat)) := none
def l116_1 : List Nat := []
theorem cd116_1 : dOk d116_1 g116_1 l116_1 = true := by kernel_rfl
def c116 : AC := (.seq (.reg d116_0 g116_0) (.seq (.reg d116_1 g116_1) .ret))
def r116 : List RV := [.tmp 2]
theorem cc116 : (Try.f116.body.bind (cCode Try.prog Try.f116.ntmps)) = some c116 := by kernel_rfl
theorem cr116 : cRes Try.prog Try.f116.results.toList = some r116 := by kernel_rfl
theorem ca116 : callable Try.prog 116 = true := by kernel_rfl
def g117_0 : List G := [⟨(some 2), .mv (.c (.bool false)), none⟩]
def d117_0 : Option (List (List Nat)) := none
def l117_0 : List Nat := []
theorem cd117_0 : dOk d117_0 g117_0 l117_0 = true := by kernel_rfl
def g117_1 : List G := [⟨(some 3), .mv (.t 0), none⟩,
  ⟨(some 4), .call 89 [(.t 3), (.c (.int .i64 (0))), (.c (.int .i64 (31)))], none⟩,
  ⟨(some 2), .mv (.t 4), none⟩]
def d117_1 : Option (List (List Nat)) := none
def l117_1 : List Nat := []
theorem cd117_1 : dOk d117_1 g117_1 l117_1 = true := by kernel_rfl
def c117 : AC := (.seq (.reg d117_0 g117_0) (.seq (.reg d117_1 g117_1) .ret))
def r117 : List RV := [.tmp 2]
theorem cc117 : (Try.f117.body.bind (cCode Try.prog Try.f117.ntmps)) = some c117 := by kernel_rfl
theorem cr117 : cRes Try.prog Try.f117.results.toList = some r117 := by kernel_rfl
theorem ca117 : callable Try.prog 117 = true := by kernel_rfl
def g118_0 : List G := [⟨(some 2), .mv (.c (.bool false)), none⟩]
def d118_0 : Option (List (List Nat)) := none
def l118_0 : List Nat := []
theorem cd118_0 : dOk d118_0 g118_0 l118_0 = true := by kernel_rfl
def g118_1 : List G := [⟨(some 3), .mv (.t 0), none⟩,
  ⟨(some 4), .bin .eql (.t 3) (.c (.int .i64 (0))), none⟩,
  ⟨(some 5), .mv (.t 4), none⟩,
  ⟨(some 6), .mv (.t 0), some (5, false)⟩,
  ⟨(some 7), .call 117 [(.t 6)], some (5, false)⟩,
  ⟨(some 8), .un .not (.t 7), some (5, false)⟩,
  ⟨(some 9), .pick (.t 5) (.c (.bool true)) (.t 8), none⟩,
  ⟨(some 2), .mv (.t 9), none⟩]
def d118_1 : Option (List (List Nat)) := none
def l118_1 : List Nat := []
theorem cd118_1 : dOk d118_1 g118_1 l118_1 = true := by kernel_rfl
def c118 : AC := (.seq (.reg d118_0 g118_0) (.seq (.reg d118_1 g118_1) .ret))
def r118 : List RV := [.tmp 2]
theorem cc118 : (Try.f118.body.bind (cCode Try.prog Try.f118.ntmps)) = some c118 := by kernel_rfl
theorem cr118 : cRes Try.prog Try.f118.results.toList = some r118 := by kernel_rfl
theorem ca118 : callable Try.prog 118 = true := by kernel_rfl
def g119_0 : List G := [⟨(some 4), .mv (.c (.bool false)), none⟩]
def d119_0 : Option (List (List Nat)) := none
def l119_0 : List Nat := []
theorem cd119_0 : dOk d119_0 g119_0 l119_0 = true := by kernel_rfl
def g119_1 : List G := [⟨(some 5), .mv (.t 0), none⟩,
  ⟨(some 6), .mv (.t 1), none⟩,
  ⟨(some 7), .call 108 [(.t 5), (.t 6)], none⟩,
  ⟨(some 8), .bin .geq (.t 7) (.c (.int .i64 (0))), none⟩,
  ⟨(some 4), .mv (.t 8), none⟩]
def d119_1 : Option (List (List Nat)) := none
def l119_1 : List Nat := []
theorem cd119_1 : dOk d119_1 g119_1 l119_1 = true := by kernel_rfl
def c119 : AC := (.seq (.reg d119_0 g119_0) (.seq (.reg d119_1 g119_1) .ret))
def r119 : List RV := [.tmp 4]
theorem cc119 : (Try.f119.body.bind (cCode Try.prog Try.f119.ntmps)) = some c119 := by kernel_rfl
theorem cr119 : cRes Try.prog Try.f119.results.toList = some r119 := by kernel_rfl
theorem ca119 : callable Try.prog 119 = true := by kernel_rfl
def g120_0 : List G := [⟨(some 3), .box (.t 0), none⟩,
  ⟨(some 4), .mv (.c (.bool false)), none⟩]
def d120_0 : Option (List (List Nat)) := none
def l120_0 : List Nat := []
theorem cd120_0 : dOk d120_0 g120_0 l120_0 = true := by kernel_rfl
def g120_1 : List G := [⟨(some 5), .fa 0 0 (.t 1), none⟩,
  ⟨(some 6), .ld (some 5) (.t 5), none⟩,
  ⟨(some 7), .fa 1 1 (.t 3), none⟩,
  ⟨(some 8), .ld (some 6) (.t 7), none⟩,
  ⟨(some 9), .ld (some 6) (.t 2), none⟩,
  ⟨(some 10), .call 87 [(.t 6), (.t 8), (.t 9)], none⟩,
  ⟨(some 11), .fa 1 5 (.t 1), none⟩,
  ⟨(some 12), .ld none (.t 11), none⟩,
  ⟨(some 13), .bin .mul (.c (.int .i64 (2))) (.t 12), none⟩,
  ⟨(some 14), .bin .leq (.t 10) (.t 13), none⟩,
  ⟨(some 4), .mv (.t 14), none⟩]
def d120_1 : Option (List (List Nat)) := (some [[], [0], [], [2], [], [1, 3, 4], [], [6], [7], [5, 8], [9, 5, 0, 1, 2, 3, 4, 5, 6, 7, 8, 9]])
def l120_1 : List Nat := [0, 1, 0, 4, 0, 31, 0, 64, 192, 511, 1023]
theorem cd120_1 : dOk d120_1 g120_1 l120_1 = true := by kernel_rfl
def c120 : AC := (.seq (.reg d120_0 g120_0) (.seq (.reg d120_1 g120_1) .ret))
def r120 : List RV := [.tmp 4]
theorem cc120 : (Try.f120.body.bind (cCode Try.prog Try.f120.ntmps)) = some c120 := by kernel_rfl
theorem cr120 : cRes Try.prog Try.f120.results.toList = some r120 := by kernel_rfl
theorem ca120 : callable Try.prog 120 = true := by kernel_rfl
def g121_0 : List G := [⟨(some 2), .alloc (.agg [.int .i64 (0), .int .i64 (0), .int .i64 (0), .int .i64 (0), .int .i64 (0), .int .i64 (0)]), none⟩,
  ⟨(some 3), .alloc (.agg [.int .i64 (0), .int .i64 (0), .int .i64 (0), .int .i64 (0), .int .i64 (0), .int .i64 (0)]), none⟩]
def d121_0 : Option (List (List Nat)) := none
def l121_0 : List Nat := []
theorem cd121_0 : dOk d121_0 g121_0 l121_0 = true := by kernel_rfl
def g121_1 : List G := [⟨(some 6), .mv (.c (.int .i64 (0))), none⟩]
def d121_1 : Option (List (List Nat)) := none
def l121_1 : List Nat := []
theorem cd121_1 : dOk d121_1 g121_1 l121_1 = true := by kernel_rfl
def g121_2 : List G := [⟨(some 7), .bin .lss (.t 6) (.c (.int .i64 (6))), none⟩]
def d121_2 : Option (List (List Nat)) := none
def l121_2 : List Nat := []
theorem cd121_2 : dOk d121_2 g121_2 l121_2 = true := by kernel_rfl
def g121_3 : List G := [⟨(some 8), .mv (.t 6), none⟩,
  ⟨(some 4), .mv (.t 8), none⟩]
def d121_3 : Option (List (List Nat)) := none
def l121_3 : List Nat := []
theorem cd121_3 : dOk d121_3 g121_3 l121_3 = true := by kernel_rfl
def g121_4 : List G := [⟨(some 9), .mv (.t 4), none⟩,
  ⟨(some 10), .ia 6 1 (.t 3) (.t 9), none⟩,
  ⟨none, .st none (.t 10) (.c (.int .i64 (4))), none⟩]
def d121_4 : Option (List (List Nat)) := none
def l121_4 : List Nat := []
theorem cd121_4 : dOk d121_4 g121_4 l121_4 = true := by kernel_rfl
def g121_5 : List G := [⟨(some 11), .bin .add (.t 6) (.c (.int .i64 (1))), none⟩,
  ⟨(some 6), .mv (.t 11), none⟩]
def d121_5 : Option (List (List Nat)) := none
def l121_5 : List Nat := []
theorem cd121_5 : dOk d121_5 g121_5 l121_5 = true := by kernel_rfl
def g121_6 : List G := [⟨(some 12), .mv (.t 0), none⟩,
  ⟨(some 13), .ld (some 6) (.t 2), none⟩,
  ⟨(some 14), .callv (.t 12) [(.t 13)], none⟩,
  ⟨(some 15), .mv (.t 14), none⟩,
  ⟨(some 16), .ld (some 6) (.t 2), some (15, true)⟩,
  ⟨(some 17), .ld (some 6) (.t 3), some (15, true)⟩,
  ⟨(some 18), .eqv (.ar 6 (.i .i64)) true (.t 16) (.t 17), some (15, true)⟩,
  ⟨(some 19), .pick (.t 15) (.t 18) (.c (.bool false)), none⟩]
def d121_6 : Option (List (List Nat)) := none
def l121_6 : List Nat := []
theorem cd121_6 : dOk d121_6 g121_6 l121_6 = true := by kernel_rfl
def g121_7 : List G := [⟨(some 5), .mv (.c (.int .i64 (5))), none⟩]
def d121_7 : Option (List (List Nat)) := none
def l121_7 : List Nat := []
theorem cd121_7 : dOk d121_7 g121_7 l121_7 = true := by kernel_rfl
def g121_8 : List G := [⟨(some 20), .mv (.t 5), none⟩,
  ⟨(some 21), .ia 6 1 (.t 2) (.t 20), none⟩,
  ⟨(some 22), .ld none (.t 21), none⟩,
  ⟨(some 23), .bin .eql (.t 22) (.c (.int .i64 (4))), none⟩]
def d121_8 : Option (List (List Nat)) := none
def l121_8 : List Nat := []
theorem cd121_8 : dOk d121_8 g121_8 l121_8 = true := by kernel_rfl
def g121_9 : List G := [⟨(some 24), .mv (.t 5), none⟩,
  ⟨(some 25), .ia 6 1 (.t 2) (.t 24), none⟩,
  ⟨none, .st none (.t 25) (.c (.int .i64 (0))), none⟩]
def d121_9 : Option (List (List Nat)) := none
def l121_9 : List Nat := []
theorem cd121_9 : dOk d121_9 g121_9 l121_9 = true := by kernel_rfl
def g121_10 : List G := [⟨(some 26), .mv (.t 5), none⟩,
  ⟨(some 27), .bin .sub (.t 26) (.c (.int .i64 (1))), none⟩,
  ⟨(some 5), .mv (.t 27), none⟩]
def d121_10 : Option (List (List Nat)) := none
def l121_10 : List Nat := []
theorem cd121_10 : dOk d121_10 g121_10 l121_10 = true := by kernel_rfl
def g121_11 : List G := [⟨(some 28), .mv (.t 5), none⟩,
  ⟨(some 29), .ia 6 1 (.t 2) (.t 28), none⟩,
  ⟨(some 30), .ld none (.t 29), none⟩,
  ⟨(some 31), .bin .add (.t 30) (.c (.int .i64 (1))), none⟩,
  ⟨(some 32), .ia 6 1 (.t 2) (.t 28), none⟩,
  ⟨none, .st none (.t 32) (.t 31), none⟩]
def d121_11 : Option (List (List Nat)) := none
def l121_11 : List Nat := []
theorem cd121_11 : dOk d121_11 g121_11 l121_11 = true := by kernel_rfl
def c121 : AC := (.seq (.reg d121_0 g121_0) (.seq (.seq (.reg d121_1 g121_1) (.block 0 (.loop (.seq (.reg d121_2 g121_2) (.seq (.cond (.t 7) .skip (.exit 0)) (.seq (.block 1 (.seq (.reg d121_3 g121_3) (.reg d121_4 g121_4))) (.reg d121_5 g121_5))))))) (.block 2 (.loop (.seq (.seq (.reg d121_6 g121_6) (.cond (.t 19) .skip (.exit 2))) (.block 3 (.seq (.reg d121_7 g121_7) (.seq (.block 4 (.loop (.seq (.seq (.reg d121_8 g121_8) (.cond (.t 23) .skip (.exit 4))) (.block 5 (.seq (.reg d121_9 g121_9) (.reg d121_10 g121_10)))))) (.reg d121_11 g121_11)))))))))
def r121 : List RV := []
theorem cc121 : (Try.f121.body.bind (cCode Try.prog Try.f121.ntmps)) = some c121 := by kernel_rfl
theorem cr121 : cRes Try.prog Try.f121.results.toList = some r121 := by kernel_rfl
theorem ca121 : callable Try.prog 121 = true := by kernel_rfl
def g123_0 : List G := [⟨(some 2), .mv (.c (.bool false)), none⟩]
def d123_0 : Option (List (List Nat)) := none
def l123_0 : List Nat := []
theorem cd123_0 : dOk d123_0 g123_0 l123_0 = true := by kernel_rfl
def g123_1 : List G := [⟨(some 3), .mv (.t 0), none⟩,
  ⟨(some 4), .mv (.t 0), none⟩,
  ⟨(some 5), .bin .neq (.t 3) (.t 4), none⟩,
  ⟨(some 2), .mv (.t 5), none⟩]
def d123_1 : Option (List (List Nat)) := none
def l123_1 : List Nat := []
theorem cd123_1 : dOk d123_1 g123_1 l123_1 = true := by kernel_rfl
def c123 : AC := (.seq (.reg d123_0 g123_0) (.seq (.reg d123_1 g123_1) .ret))
def r123 : List RV := [.tmp 2]
theorem cc123 : (Try.f123.body.bind (cCode Try.prog Try.f123.ntmps)) = some c123 := by kernel_rfl
theorem cr123 : cRes Try.prog Try.f123.results.toList = some r123 := by kernel_rfl
theorem ca123 : callable Try.prog 123 = true := by kernel_rfl
end Go.Proofs.Ytkjkbpgdpnapfaa

/-
  THE SEAT'S FUNCTIONS, READ (part 1): the code of each as the abstract layer reads it, by program; each tie is a closed fact.
-/
namespace Go.Proofs.Ytkjkbpgdpnapfaa
open Go Go.Abs
def g28_0 : List G := [⟨(some 2), .box (.t 0), none⟩,
  ⟨(some 3), .box (.t 1), none⟩,
  ⟨(some 4), .mv (.c (.nils 1)), none⟩,
  ⟨(some 5), .mv (.c (.int .i64 (0))), none⟩]
def d28_0 : Option (List (List Nat)) := none
def l28_0 : List Nat := []
theorem cd28_0 : dOk d28_0 g28_0 l28_0 = true := by kernel_rfl
def g28_1 : List G := [⟨(some 7), .ld (some 7) (.t 2), none⟩,
  ⟨(some 8), .call 48 [(.t 7)], none⟩,
  ⟨(some 9), .bin .neq (.t 8) (.c (.int .i64 (0))), none⟩]
def d28_1 : Option (List (List Nat)) := none
def l28_1 : List Nat := []
theorem cd28_1 : dOk d28_1 g28_1 l28_1 = true := by kernel_rfl
def g28_2 : List G := [⟨(some 4), .mv (.c (.nils 1)), none⟩,
  ⟨(some 5), .mv (.c (.int .i64 (13))), none⟩]
def d28_2 : Option (List (List Nat)) := none
def l28_2 : List Nat := []
theorem cd28_2 : dOk d28_2 g28_2 l28_2 = true := by kernel_rfl
def g28_3 : List G := [⟨(some 10), .ld (some 6) (.t 3), none⟩,
  ⟨(some 11), .call 46 [(.t 10)], none⟩,
  ⟨(some 12), .bin .neq (.t 11) (.c (.int .i64 (0))), none⟩]
def d28_3 : Option (List (List Nat)) := none
def l28_3 : List Nat := []
theorem cd28_3 : dOk d28_3 g28_3 l28_3 = true := by kernel_rfl
def g28_4 : List G := [⟨(some 4), .mv (.c (.nils 1)), none⟩,
  ⟨(some 5), .mv (.c (.int .i64 (12))), none⟩]
def d28_4 : Option (List (List Nat)) := none
def l28_4 : List Nat := []
theorem cd28_4 : dOk d28_4 g28_4 l28_4 = true := by kernel_rfl
def g28_5 : List G := [⟨(some 13), .ld (some 7) (.t 2), none⟩,
  ⟨(some 14), .ld (some 6) (.t 3), none⟩,
  ⟨(some 15), .call 84 [(.t 13), (.t 14)], none⟩,
  ⟨(some 6), .mv (.t 15), none⟩]
def d28_5 : Option (List (List Nat)) := none
def l28_5 : List Nat := []
theorem cd28_5 : dOk d28_5 g28_5 l28_5 = true := by kernel_rfl
def g28_6 : List G := [⟨(some 16), .mv (.t 6), none⟩,
  ⟨(some 4), .mv (.t 16), none⟩,
  ⟨(some 5), .mv (.c (.int .i64 (0))), none⟩]
def d28_6 : Option (List (List Nat)) := none
def l28_6 : List Nat := []
theorem cd28_6 : dOk d28_6 g28_6 l28_6 = true := by kernel_rfl
def c28 : AC := (.seq (.reg d28_0 g28_0) (.seq (.seq (.reg d28_1 g28_1) (.cond (.t 9) (.seq (.reg d28_2 g28_2) .ret) .skip)) (.seq (.seq (.reg d28_3 g28_3) (.cond (.t 12) (.seq (.reg d28_4 g28_4) .ret) .skip)) (.seq (.reg d28_5 g28_5) (.seq (.reg d28_6 g28_6) .ret)))))
def r28 : List RV := [.tmp 4, .tmp 5]
theorem cc28 : (Try.f28.body.bind (cCode Try.prog Try.f28.ntmps)) = some c28 := by kernel_rfl
theorem cr28 : cRes Try.prog Try.f28.results.toList = some r28 := by kernel_rfl
theorem ca28 : callable Try.prog 28 = true := by kernel_rfl
def g33_0 : List G := [⟨(some 2), .mv (.c (.nils 1)), none⟩]
def d33_0 : Option (List (List Nat)) := none
def l33_0 : List Nat := []
theorem cd33_0 : dOk d33_0 g33_0 l33_0 = true := by kernel_rfl
def g33_1 : List G := [⟨(some 3), .mv (.c (.nils 1)), none⟩]
def d33_1 : Option (List (List Nat)) := none
def l33_1 : List Nat := []
theorem cd33_1 : dOk d33_1 g33_1 l33_1 = true := by kernel_rfl
def g33_2 : List G := [⟨(some 4), .mv (.c (.int .i64 (0))), none⟩]
def d33_2 : Option (List (List Nat)) := none
def l33_2 : List Nat := []
theorem cd33_2 : dOk d33_2 g33_2 l33_2 = true := by kernel_rfl
def g33_3 : List G := [⟨(some 5), .mv (.t 4), none⟩,
  ⟨(some 6), .bin .lss (.t 5) (.c (.int .i64 (5))), none⟩]
def d33_3 : Option (List (List Nat)) := none
def l33_3 : List Nat := []
theorem cd33_3 : dOk d33_3 g33_3 l33_3 = true := by kernel_rfl
def g33_4 : List G := [⟨(some 9), .mv (.t 0), none⟩,
  ⟨(some 10), .mv (.t 4), none⟩,
  ⟨(some 11), .bin .shl (.c (.int .i64 (1))) (.t 10), none⟩,
  ⟨(some 12), .bin .and (.t 9) (.t 11), none⟩,
  ⟨(some 13), .bin .neq (.t 12) (.c (.int .i64 (0))), none⟩]
def d33_4 : Option (List (List Nat)) := none
def l33_4 : List Nat := []
theorem cd33_4 : dOk d33_4 g33_4 l33_4 = true := by kernel_rfl
def g33_5 : List G := [⟨(some 14), .mv (.t 3), none⟩,
  ⟨(some 15), .mv (.t 4), none⟩,
  ⟨(some 16), .bs 1 [(.t 15)], none⟩,
  ⟨(some 17), .app 3 1 8 (.int .i64 (0)) (.t 14) (.t 16), none⟩,
  ⟨(some 3), .mv (.t 17), none⟩]
def d33_5 : Option (List (List Nat)) := none
def l33_5 : List Nat := []
theorem cd33_5 : dOk d33_5 g33_5 l33_5 = true := by kernel_rfl
def g33_6 : List G := [⟨(some 7), .mv (.t 4), none⟩,
  ⟨(some 8), .bin .add (.t 7) (.c (.int .i64 (1))), none⟩,
  ⟨(some 4), .mv (.t 8), none⟩]
def d33_6 : Option (List (List Nat)) := none
def l33_6 : List Nat := []
theorem cd33_6 : dOk d33_6 g33_6 l33_6 = true := by kernel_rfl
def g33_7 : List G := [⟨(some 18), .mv (.t 3), none⟩,
  ⟨(some 2), .mv (.t 18), none⟩]
def d33_7 : Option (List (List Nat)) := none
def l33_7 : List Nat := []
theorem cd33_7 : dOk d33_7 g33_7 l33_7 = true := by kernel_rfl
def c33 : AC := (.seq (.reg d33_0 g33_0) (.seq (.reg d33_1 g33_1) (.seq (.seq (.reg d33_2 g33_2) (.block 0 (.loop (.seq (.seq (.reg d33_3 g33_3) (.cond (.t 6) .skip (.exit 0))) (.seq (.block 1 (.seq (.reg d33_4 g33_4) (.cond (.t 13) (.reg d33_5 g33_5) .skip))) (.reg d33_6 g33_6)))))) (.seq (.reg d33_7 g33_7) .ret))))
def r33 : List RV := [.tmp 2]
theorem cc33 : (Try.f33.body.bind (cCode Try.prog Try.f33.ntmps)) = some c33 := by kernel_rfl
theorem cr33 : cRes Try.prog Try.f33.results.toList = some r33 := by kernel_rfl
theorem ca33 : callable Try.prog 33 = true := by kernel_rfl
def g36_0 : List G := [⟨(some 3), .box (.t 0), none⟩,
  ⟨(some 4), .box (.t 1), none⟩,
  ⟨(some 5), .box (.t 2), none⟩,
  ⟨(some 6), .mv (.c (.int .i64 (0))), none⟩,
  ⟨(some 7), .mv (.c (.int .i64 (0))), none⟩]
def d36_0 : Option (List (List Nat)) := none
def l36_0 : List Nat := []
theorem cd36_0 : dOk d36_0 g36_0 l36_0 = true := by kernel_rfl
def g36_1 : List G := [⟨(some 9), .ld (some 5) (.t 3), none⟩,
  ⟨(some 10), .call 43 [(.t 9)], none⟩,
  ⟨(some 11), .ld (some 6) (.t 4), none⟩,
  ⟨(some 12), .call 41 [(.t 11)], none⟩,
  ⟨(some 13), .ld (some 6) (.t 5), none⟩,
  ⟨(some 14), .call 41 [(.t 13)], none⟩,
  ⟨(some 15), .bs 1 [(.t 10), (.t 12), (.t 14)], none⟩,
  ⟨(some 16), .call 64 [(.t 15)], none⟩,
  ⟨(some 8), .mv (.t 16), none⟩]
def d36_1 : Option (List (List Nat)) := (some [[], [0], [], [2, 1], [], [4, 3], [1, 3, 5], [6, 5], [7, 7, 0, 1, 2, 3, 4, 5, 6, 7]])
def l36_1 : List Nat := [0, 1, 0, 7, 0, 31, 63, 127, 255]
theorem cd36_1 : dOk d36_1 g36_1 l36_1 = true := by kernel_rfl
def g36_2 : List G := [⟨(some 17), .mv (.t 8), none⟩,
  ⟨(some 18), .bin .neq (.t 17) (.c (.int .i64 (0))), none⟩]
def d36_2 : Option (List (List Nat)) := none
def l36_2 : List Nat := []
theorem cd36_2 : dOk d36_2 g36_2 l36_2 = true := by kernel_rfl
def g36_3 : List G := [⟨(some 19), .mv (.t 8), none⟩,
  ⟨(some 6), .mv (.c (.int .i64 (0))), none⟩,
  ⟨(some 7), .mv (.t 19), none⟩]
def d36_3 : Option (List (List Nat)) := none
def l36_3 : List Nat := []
theorem cd36_3 : dOk d36_3 g36_3 l36_3 = true := by kernel_rfl
def g36_4 : List G := [⟨(some 20), .ld (some 5) (.t 3), none⟩,
  ⟨(some 21), .ld (some 6) (.t 4), none⟩,
  ⟨(some 22), .ld (some 6) (.t 5), none⟩,
  ⟨(some 23), .call 87 [(.t 20), (.t 21), (.t 22)], none⟩,
  ⟨(some 6), .mv (.t 23), none⟩,
  ⟨(some 7), .mv (.c (.int .i64 (0))), none⟩]
def d36_4 : Option (List (List Nat)) := none
def l36_4 : List Nat := []
theorem cd36_4 : dOk d36_4 g36_4 l36_4 = true := by kernel_rfl
def c36 : AC := (.seq (.reg d36_0 g36_0) (.seq (.seq (.reg d36_1 g36_1) (.seq (.reg d36_2 g36_2) (.cond (.t 18) (.seq (.reg d36_3 g36_3) .ret) .skip))) (.seq (.reg d36_4 g36_4) .ret)))
def r36 : List RV := [.tmp 6, .tmp 7]
theorem cc36 : (Try.f36.body.bind (cCode Try.prog Try.f36.ntmps)) = some c36 := by kernel_rfl
theorem cr36 : cRes Try.prog Try.f36.results.toList = some r36 := by kernel_rfl
theorem ca36 : callable Try.prog 36 = true := by kernel_rfl
def g41_0 : List G := [⟨(some 1), .box (.t 0), none⟩,
  ⟨(some 2), .mv (.c (.int .i64 (0))), none⟩]
def d41_0 : Option (List (List Nat)) := none
def l41_0 : List Nat := []
theorem cd41_0 : dOk d41_0 g41_0 l41_0 = true := by kernel_rfl
def g41_1 : List G := [⟨(some 3), .ld (some 6) (.t 1), none⟩,
  ⟨(some 4), .call 93 [(.t 3)], none⟩,
  ⟨(some 5), .un .not (.t 4), none⟩]
def d41_1 : Option (List (List Nat)) := none
def l41_1 : List Nat := []
theorem cd41_1 : dOk d41_1 g41_1 l41_1 = true := by kernel_rfl
def g41_2 : List G := [⟨(some 2), .mv (.c (.int .i64 (10))), none⟩]
def d41_2 : Option (List (List Nat)) := none
def l41_2 : List Nat := []
theorem cd41_2 : dOk d41_2 g41_2 l41_2 = true := by kernel_rfl
def g41_3 : List G := [⟨(some 2), .mv (.c (.int .i64 (0))), none⟩]
def d41_3 : Option (List (List Nat)) := none
def l41_3 : List Nat := []
theorem cd41_3 : dOk d41_3 g41_3 l41_3 = true := by kernel_rfl
def c41 : AC := (.seq (.reg d41_0 g41_0) (.seq (.seq (.reg d41_1 g41_1) (.cond (.t 5) (.seq (.reg d41_2 g41_2) .ret) .skip)) (.seq (.reg d41_3 g41_3) .ret)))
def r41 : List RV := [.tmp 2]
theorem cc41 : (Try.f41.body.bind (cCode Try.prog Try.f41.ntmps)) = some c41 := by kernel_rfl
theorem cr41 : cRes Try.prog Try.f41.results.toList = some r41 := by kernel_rfl
theorem ca41 : callable Try.prog 41 = true := by kernel_rfl
def g42_0 : List G := [⟨(some 1), .box (.t 0), none⟩,
  ⟨(some 2), .mv (.c (.int .i64 (0))), none⟩]
def d42_0 : Option (List (List Nat)) := none
def l42_0 : List Nat := []
theorem cd42_0 : dOk d42_0 g42_0 l42_0 = true := by kernel_rfl
def g42_1 : List G := [⟨(some 3), .mv (.c (.int .i64 (0))), none⟩]
def d42_1 : Option (List (List Nat)) := none
def l42_1 : List Nat := []
theorem cd42_1 : dOk d42_1 g42_1 l42_1 = true := by kernel_rfl
def g42_2 : List G := [⟨(some 4), .mv (.t 3), none⟩,
  ⟨(some 5), .bin .lss (.t 4) (.c (.int .i64 (6))), none⟩]
def d42_2 : Option (List (List Nat)) := none
def l42_2 : List Nat := []
theorem cd42_2 : dOk d42_2 g42_2 l42_2 = true := by kernel_rfl
def g42_3 : List G := [⟨(some 8), .mv (.t 3), none⟩,
  ⟨(some 9), .ia 6 1 (.t 1) (.t 8), none⟩,
  ⟨(some 10), .ld none (.t 9), none⟩,
  ⟨(some 11), .call 94 [(.t 10), (.c (.int .i64 (0))), (.c (.int .i64 (4)))], none⟩,
  ⟨(some 12), .un .not (.t 11), none⟩]
def d42_3 : Option (List (List Nat)) := none
def l42_3 : List Nat := []
theorem cd42_3 : dOk d42_3 g42_3 l42_3 = true := by kernel_rfl
def g42_4 : List G := [⟨(some 2), .mv (.c (.int .i64 (10))), none⟩]
def d42_4 : Option (List (List Nat)) := none
def l42_4 : List Nat := []
theorem cd42_4 : dOk d42_4 g42_4 l42_4 = true := by kernel_rfl
def g42_5 : List G := [⟨(some 6), .mv (.t 3), none⟩,
  ⟨(some 7), .bin .add (.t 6) (.c (.int .i64 (1))), none⟩,
  ⟨(some 3), .mv (.t 7), none⟩]
def d42_5 : Option (List (List Nat)) := none
def l42_5 : List Nat := []
theorem cd42_5 : dOk d42_5 g42_5 l42_5 = true := by kernel_rfl
def g42_6 : List G := [⟨(some 2), .mv (.c (.int .i64 (0))), none⟩]
def d42_6 : Option (List (List Nat)) := none
def l42_6 : List Nat := []
theorem cd42_6 : dOk d42_6 g42_6 l42_6 = true := by kernel_rfl
def c42 : AC := (.seq (.reg d42_0 g42_0) (.seq (.seq (.reg d42_1 g42_1) (.block 0 (.loop (.seq (.seq (.reg d42_2 g42_2) (.cond (.t 5) .skip (.exit 0))) (.seq (.block 1 (.seq (.reg d42_3 g42_3) (.cond (.t 12) (.seq (.reg d42_4 g42_4) .ret) .skip))) (.reg d42_5 g42_5)))))) (.seq (.reg d42_6 g42_6) .ret)))
def r42 : List RV := [.tmp 2]
theorem cc42 : (Try.f42.body.bind (cCode Try.prog Try.f42.ntmps)) = some c42 := by kernel_rfl
theorem cr42 : cRes Try.prog Try.f42.results.toList = some r42 := by kernel_rfl
theorem ca42 : callable Try.prog 42 = true := by kernel_rfl
def g43_0 : List G := [⟨(some 1), .box (.t 0), none⟩,
  ⟨(some 2), .mv (.c (.int .i64 (0))), none⟩]
def d43_0 : Option (List (List Nat)) := none
def l43_0 : List Nat := []
theorem cd43_0 : dOk d43_0 g43_0 l43_0 = true := by kernel_rfl
def g43_1 : List G := [⟨(some 3), .ld (some 5) (.t 1), none⟩,
  ⟨(some 4), .call 95 [(.t 3)], none⟩,
  ⟨(some 5), .un .not (.t 4), none⟩]
def d43_1 : Option (List (List Nat)) := none
def l43_1 : List Nat := []
theorem cd43_1 : dOk d43_1 g43_1 l43_1 = true := by kernel_rfl
def g43_2 : List G := [⟨(some 2), .mv (.c (.int .i64 (11))), none⟩]
def d43_2 : Option (List (List Nat)) := none
def l43_2 : List Nat := []
theorem cd43_2 : dOk d43_2 g43_2 l43_2 = true := by kernel_rfl
def g43_3 : List G := [⟨(some 2), .mv (.c (.int .i64 (0))), none⟩]
def d43_3 : Option (List (List Nat)) := none
def l43_3 : List Nat := []
theorem cd43_3 : dOk d43_3 g43_3 l43_3 = true := by kernel_rfl
def c43 : AC := (.seq (.reg d43_0 g43_0) (.seq (.seq (.reg d43_1 g43_1) (.cond (.t 5) (.seq (.reg d43_2 g43_2) .ret) .skip)) (.seq (.reg d43_3 g43_3) .ret)))
def r43 : List RV := [.tmp 2]
theorem cc43 : (Try.f43.body.bind (cCode Try.prog Try.f43.ntmps)) = some c43 := by kernel_rfl
theorem cr43 : cRes Try.prog Try.f43.results.toList = some r43 := by kernel_rfl
theorem ca43 : callable Try.prog 43 = true := by kernel_rfl
def g44_0 : List G := [⟨(some 1), .box (.t 0), none⟩,
  ⟨(some 2), .mv (.c (.int .i64 (0))), none⟩]
def d44_0 : Option (List (List Nat)) := none
def l44_0 : List Nat := []
theorem cd44_0 : dOk d44_0 g44_0 l44_0 = true := by kernel_rfl
def g44_1 : List G := [⟨(some 3), .mv (.c (.int .i64 (0))), none⟩]
def d44_1 : Option (List (List Nat)) := none
def l44_1 : List Nat := []
theorem cd44_1 : dOk d44_1 g44_1 l44_1 = true := by kernel_rfl
def g44_2 : List G := [⟨(some 4), .mv (.t 3), none⟩,
  ⟨(some 5), .bin .lss (.t 4) (.c (.int .i64 (5))), none⟩]
def d44_2 : Option (List (List Nat)) := none
def l44_2 : List Nat := []
theorem cd44_2 : dOk d44_2 g44_2 l44_2 = true := by kernel_rfl
def g44_3 : List G := [⟨(some 8), .mv (.t 3), none⟩,
  ⟨(some 9), .ia 5 1 (.t 1) (.t 8), none⟩,
  ⟨(some 10), .ld none (.t 9), none⟩,
  ⟨(some 11), .call 94 [(.t 10), (.c (.int .i64 (0))), (.c (.int .i64 (31)))], none⟩,
  ⟨(some 12), .un .not (.t 11), none⟩,
  ⟨(some 13), .mv (.t 12), none⟩,
  ⟨(some 14), .mv (.t 3), some (13, false)⟩,
  ⟨(some 15), .ia 5 1 (.t 1) (.t 14), some (13, false)⟩,
  ⟨(some 16), .ld none (.t 15), some (13, false)⟩,
  ⟨(some 17), .mv (.t 3), some (13, false)⟩,
  ⟨(some 18), .bin .shl (.c (.int .i64 (1))) (.t 17), some (13, false)⟩,
  ⟨(some 19), .bin .and (.t 16) (.t 18), some (13, false)⟩,
  ⟨(some 20), .bin .eql (.t 19) (.c (.int .i64 (0))), some (13, false)⟩,
  ⟨(some 21), .pick (.t 13) (.c (.bool true)) (.t 20), none⟩]
def d44_3 : Option (List (List Nat)) := (some [[], [0], [1], [2], [3], [4, 3], [5], [6, 5], [7, 5], [5], [9, 5], [8, 10, 5], [11, 5], [5, 12]])
def l44_3 : List Nat := [0, 1, 3, 7, 15, 31, 63, 127, 255, 63, 575, 2047, 4095, 8191]
theorem cd44_3 : dOk d44_3 g44_3 l44_3 = true := by kernel_rfl
def g44_4 : List G := [⟨(some 2), .mv (.c (.int .i64 (11))), none⟩]
def d44_4 : Option (List (List Nat)) := none
def l44_4 : List Nat := []
theorem cd44_4 : dOk d44_4 g44_4 l44_4 = true := by kernel_rfl
def g44_5 : List G := [⟨(some 6), .mv (.t 3), none⟩,
  ⟨(some 7), .bin .add (.t 6) (.c (.int .i64 (1))), none⟩,
  ⟨(some 3), .mv (.t 7), none⟩]
def d44_5 : Option (List (List Nat)) := none
def l44_5 : List Nat := []
theorem cd44_5 : dOk d44_5 g44_5 l44_5 = true := by kernel_rfl
def g44_6 : List G := [⟨(some 2), .mv (.c (.int .i64 (0))), none⟩]
def d44_6 : Option (List (List Nat)) := none
def l44_6 : List Nat := []
theorem cd44_6 : dOk d44_6 g44_6 l44_6 = true := by kernel_rfl
def c44 : AC := (.seq (.reg d44_0 g44_0) (.seq (.seq (.reg d44_1 g44_1) (.block 0 (.loop (.seq (.seq (.reg d44_2 g44_2) (.cond (.t 5) .skip (.exit 0))) (.seq (.block 1 (.seq (.reg d44_3 g44_3) (.cond (.t 21) (.seq (.reg d44_4 g44_4) .ret) .skip))) (.reg d44_5 g44_5)))))) (.seq (.reg d44_6 g44_6) .ret)))
def r44 : List RV := [.tmp 2]
theorem cc44 : (Try.f44.body.bind (cCode Try.prog Try.f44.ntmps)) = some c44 := by kernel_rfl
theorem cr44 : cRes Try.prog Try.f44.results.toList = some r44 := by kernel_rfl
theorem ca44 : callable Try.prog 44 = true := by kernel_rfl
def g45_0 : List G := [⟨(some 1), .box (.t 0), none⟩,
  ⟨(some 2), .mv (.c (.int .i64 (0))), none⟩]
def d45_0 : Option (List (List Nat)) := none
def l45_0 : List Nat := []
theorem cd45_0 : dOk d45_0 g45_0 l45_0 = true := by kernel_rfl
def g45_1 : List G := [⟨(some 3), .ld (some 6) (.t 1), none⟩,
  ⟨(some 4), .call 96 [(.t 3)], none⟩,
  ⟨(some 5), .un .not (.t 4), none⟩]
def d45_1 : Option (List (List Nat)) := none
def l45_1 : List Nat := []
theorem cd45_1 : dOk d45_1 g45_1 l45_1 = true := by kernel_rfl
def g45_2 : List G := [⟨(some 2), .mv (.c (.int .i64 (12))), none⟩]
def d45_2 : Option (List (List Nat)) := none
def l45_2 : List Nat := []
theorem cd45_2 : dOk d45_2 g45_2 l45_2 = true := by kernel_rfl
def g45_3 : List G := [⟨(some 2), .mv (.c (.int .i64 (0))), none⟩]
def d45_3 : Option (List (List Nat)) := none
def l45_3 : List Nat := []
theorem cd45_3 : dOk d45_3 g45_3 l45_3 = true := by kernel_rfl
def c45 : AC := (.seq (.reg d45_0 g45_0) (.seq (.seq (.reg d45_1 g45_1) (.cond (.t 5) (.seq (.reg d45_2 g45_2) .ret) .skip)) (.seq (.reg d45_3 g45_3) .ret)))
def r45 : List RV := [.tmp 2]
theorem cc45 : (Try.f45.body.bind (cCode Try.prog Try.f45.ntmps)) = some c45 := by kernel_rfl
theorem cr45 : cRes Try.prog Try.f45.results.toList = some r45 := by kernel_rfl
theorem ca45 : callable Try.prog 45 = true := by kernel_rfl
def g46_0 : List G := [⟨(some 1), .box (.t 0), none⟩,
  ⟨(some 2), .mv (.c (.int .i64 (0))), none⟩]
def d46_0 : Option (List (List Nat)) := none
def l46_0 : List Nat := []
theorem cd46_0 : dOk d46_0 g46_0 l46_0 = true := by kernel_rfl
def g46_1 : List G := [⟨(some 3), .mv (.c (.int .i64 (0))), none⟩]
def d46_1 : Option (List (List Nat)) := none
def l46_1 : List Nat := []
theorem cd46_1 : dOk d46_1 g46_1 l46_1 = true := by kernel_rfl
def g46_2 : List G := [⟨(some 4), .mv (.t 3), none⟩,
  ⟨(some 5), .bin .lss (.t 4) (.c (.int .i64 (6))), none⟩]
def d46_2 : Option (List (List Nat)) := none
def l46_2 : List Nat := []
theorem cd46_2 : dOk d46_2 g46_2 l46_2 = true := by kernel_rfl
def g46_3 : List G := [⟨(some 8), .mv (.t 3), none⟩,
  ⟨(some 9), .ia 6 1 (.t 1) (.t 8), none⟩,
  ⟨(some 10), .ld none (.t 9), none⟩,
  ⟨(some 11), .call 94 [(.t 10), (.c (.int .i64 (1))), (.c (.int .i64 (31)))], none⟩,
  ⟨(some 12), .un .not (.t 11), none⟩]
def d46_3 : Option (List (List Nat)) := none
def l46_3 : List Nat := []
theorem cd46_3 : dOk d46_3 g46_3 l46_3 = true := by kernel_rfl
def g46_4 : List G := [⟨(some 2), .mv (.c (.int .i64 (12))), none⟩]
def d46_4 : Option (List (List Nat)) := none
def l46_4 : List Nat := []
theorem cd46_4 : dOk d46_4 g46_4 l46_4 = true := by kernel_rfl
def g46_5 : List G := [⟨(some 6), .mv (.t 3), none⟩,
  ⟨(some 7), .bin .add (.t 6) (.c (.int .i64 (1))), none⟩,
  ⟨(some 3), .mv (.t 7), none⟩]
def d46_5 : Option (List (List Nat)) := none
def l46_5 : List Nat := []
theorem cd46_5 : dOk d46_5 g46_5 l46_5 = true := by kernel_rfl
def g46_6 : List G := [⟨(some 2), .mv (.c (.int .i64 (0))), none⟩]
def d46_6 : Option (List (List Nat)) := none
def l46_6 : List Nat := []
theorem cd46_6 : dOk d46_6 g46_6 l46_6 = true := by kernel_rfl
def c46 : AC := (.seq (.reg d46_0 g46_0) (.seq (.seq (.reg d46_1 g46_1) (.block 0 (.loop (.seq (.seq (.reg d46_2 g46_2) (.cond (.t 5) .skip (.exit 0))) (.seq (.block 1 (.seq (.reg d46_3 g46_3) (.cond (.t 12) (.seq (.reg d46_4 g46_4) .ret) .skip))) (.reg d46_5 g46_5)))))) (.seq (.reg d46_6 g46_6) .ret)))
def r46 : List RV := [.tmp 2]
theorem cc46 : (Try.f46.body.bind (cCode Try.prog Try.f46.ntmps)) = some c46 := by kernel_rfl
theorem cr46 : cRes Try.prog Try.f46.results.toList = some r46 := by kernel_rfl
theorem ca46 : callable Try.prog 46 = true := by kernel_rfl
def g47_0 : List G := [⟨(some 1), .box (.t 0), none⟩,
  ⟨(some 2), .mv (.c (.int .i64 (0))), none⟩]
def d47_0 : Option (List (List Nat)) := none
def l47_0 : List Nat := []
theorem cd47_0 : dOk d47_0 g47_0 l47_0 = true := by kernel_rfl
def g47_1 : List G := [⟨(some 5), .fa 0 0 (.t 1), none⟩,
  ⟨(some 6), .ld (some 5) (.t 5), none⟩,
  ⟨(some 7), .call 95 [(.t 6)], none⟩,
  ⟨(some 8), .un .not (.t 7), none⟩,
  ⟨(some 9), .mv (.t 8), none⟩,
  ⟨(some 10), .fa 1 5 (.t 1), some (9, false)⟩,
  ⟨(some 11), .ld none (.t 10), some (9, false)⟩,
  ⟨(some 12), .call 89 [(.t 11), (.c (.int .i64 (0))), (.c (.int .i64 (2)))], some (9, false)⟩,
  ⟨(some 13), .un .not (.t 12), some (9, false)⟩,
  ⟨(some 14), .pick (.t 9) (.c (.bool true)) (.t 13), none⟩,
  ⟨(some 15), .mv (.t 14), none⟩,
  ⟨(some 16), .fa 2 6 (.t 1), some (15, false)⟩,
  ⟨(some 17), .ld none (.t 16), some (15, false)⟩,
  ⟨(some 18), .len (.t 17), some (15, false)⟩,
  ⟨(some 19), .bin .gtr (.t 18) (.c (.int .i64 (40))), some (15, false)⟩,
  ⟨(some 20), .pick (.t 15) (.c (.bool true)) (.t 19), none⟩]
def d47_1 : Option (List (List Nat)) := none
def l47_1 : List Nat := []
theorem cd47_1 : dOk d47_1 g47_1 l47_1 = true := by kernel_rfl
def g47_2 : List G := [⟨(some 2), .mv (.c (.int .i64 (13))), none⟩]
def d47_2 : Option (List (List Nat)) := none
def l47_2 : List Nat := []
theorem cd47_2 : dOk d47_2 g47_2 l47_2 = true := by kernel_rfl
def g47_3 : List G := [⟨(some 21), .fa 2 6 (.t 1), none⟩,
  ⟨(some 22), .ld none (.t 21), none⟩,
  ⟨(some 23), .len (.t 22), none⟩,
  ⟨(some 24), .mv (.c (.int .i64 (0))), none⟩]
def d47_3 : Option (List (List Nat)) := none
def l47_3 : List Nat := []
theorem cd47_3 : dOk d47_3 g47_3 l47_3 = true := by kernel_rfl
def g47_4 : List G := [⟨(some 25), .bin .lss (.t 24) (.t 23), none⟩]
def d47_4 : Option (List (List Nat)) := none
def l47_4 : List Nat := []
theorem cd47_4 : dOk d47_4 g47_4 l47_4 = true := by kernel_rfl
def g47_5 : List G := [⟨(some 26), .mv (.t 24), none⟩,
  ⟨(some 27), .is 7 (.t 22) (.t 24), none⟩,
  ⟨(some 28), .ld (some 7) (.t 27), none⟩,
  ⟨(some 4), .alloc (.agg [.int .i64 (0), .agg [.int .i64 (0), .int .i64 (0), .int .i64 (0), .int .i64 (0), .int .i64 (0), .int .i64 (0)]]), none⟩,
  ⟨(some 3), .mv (.t 26), none⟩,
  ⟨none, .st (some 7) (.t 4) (.t 28), none⟩]
def d47_5 : Option (List (List Nat)) := none
def l47_5 : List Nat := []
theorem cd47_5 : dOk d47_5 g47_5 l47_5 = true := by kernel_rfl
def g47_6 : List G := [⟨(some 29), .fa 0 0 (.t 4), none⟩,
  ⟨(some 30), .ld none (.t 29), none⟩,
  ⟨(some 31), .call 97 [(.t 30)], none⟩,
  ⟨(some 32), .un .not (.t 31), none⟩,
  ⟨(some 33), .mv (.t 32), none⟩,
  ⟨(some 34), .fa 1 1 (.t 4), some (33, false)⟩,
  ⟨(some 35), .ld (some 6) (.t 34), some (33, false)⟩,
  ⟨(some 36), .call 93 [(.t 35)], some (33, false)⟩,
  ⟨(some 37), .un .not (.t 36), some (33, false)⟩,
  ⟨(some 38), .pick (.t 33) (.c (.bool true)) (.t 37), none⟩,
  ⟨(some 39), .mv (.t 38), none⟩,
  ⟨(some 40), .mv (.t 3), some (39, false)⟩,
  ⟨(some 41), .bin .gtr (.t 40) (.c (.int .i64 (0))), some (39, false)⟩,
  ⟨(some 42), .mv (.t 41), some (39, false)⟩,
  ⟨(some 43), .fa 2 6 (.t 1), some (42, true)⟩,
  ⟨(some 44), .ld none (.t 43), some (42, true)⟩,
  ⟨(some 45), .mv (.t 3), some (42, true)⟩,
  ⟨(some 46), .bin .sub (.t 45) (.c (.int .i64 (1))), some (42, true)⟩,
  ⟨(some 47), .is 7 (.t 44) (.t 46), some (42, true)⟩,
  ⟨(some 48), .fa 0 0 (.t 47), some (42, true)⟩,
  ⟨(some 49), .ld none (.t 48), some (42, true)⟩,
  ⟨(some 50), .fa 0 0 (.t 4), some (42, true)⟩,
  ⟨(some 51), .ld none (.t 50), some (42, true)⟩,
  ⟨(some 52), .bin .geq (.t 49) (.t 51), some (42, true)⟩,
  ⟨(some 53), .pick (.t 42) (.t 52) (.c (.bool false)), some (39, false)⟩,
  ⟨(some 54), .pick (.t 39) (.c (.bool true)) (.t 53), none⟩,
  ⟨(some 55), .mv (.t 54), none⟩,
  ⟨(some 56), .ld (some 7) (.t 1), some (55, false)⟩,
  ⟨(some 57), .fa 2 6 (.t 1), some (55, false)⟩,
  ⟨(some 58), .ld none (.t 57), some (55, false)⟩,
  ⟨(some 59), .mv (.t 3), some (55, false)⟩,
  ⟨(some 60), .sl 7 (.t 58) none (some (.t 59)) none, some (55, false)⟩,
  ⟨(some 61), .fa 1 1 (.t 4), some (55, false)⟩,
  ⟨(some 62), .ld (some 6) (.t 61), some (55, false)⟩,
  ⟨(some 63), .call 98 [(.t 56), (.t 60), (.t 62)], some (55, false)⟩,
  ⟨(some 64), .un .not (.t 63), some (55, false)⟩,
  ⟨(some 65), .pick (.t 55) (.c (.bool true)) (.t 64), none⟩]
def d47_6 : Option (List (List Nat)) := (some [[], [0], [1], [2], [3, 2], [4], [5, 4], [6, 4, 4], [7, 4], [4, 8], [9, 7], [10], [11, 10], [12, 10, 10], [13], [14, 13], [13], [16, 13], [15, 17, 13], [18, 13], [19, 13], [13], [21, 13], [20, 22, 13], [13, 23, 10], [10, 24], [25, 13], [26], [26], [28, 26], [26], [29, 30, 26], [26], [32, 26], [27, 31, 33, 26, 26], [34, 26], [26, 35]])
def l47_6 : List Nat := [0, 1, 3, 7, 15, 31, 63, 127, 255, 511, 1023, 2047, 4095, 8191, 16383, 32767, 16383, 81919, 262143, 524287, 1048575, 16383, 2113535, 8388607, 16777215, 33554431, 67108863, 134217727, 134217727, 402653183, 134217727, 2013265919, 134217727, 4429185023, 17179869183, 34359738367, 68719476735]
theorem cd47_6 : dOk d47_6 g47_6 l47_6 = true := by kernel_rfl
def g47_7 : List G := [⟨(some 2), .mv (.c (.int .i64 (13))), none⟩]
def d47_7 : Option (List (List Nat)) := none
def l47_7 : List Nat := []
theorem cd47_7 : dOk d47_7 g47_7 l47_7 = true := by kernel_rfl
def g47_8 : List G := [⟨(some 66), .bin .add (.t 24) (.c (.int .i64 (1))), none⟩,
  ⟨(some 24), .mv (.t 66), none⟩]
def d47_8 : Option (List (List Nat)) := none
def l47_8 : List Nat := []
theorem cd47_8 : dOk d47_8 g47_8 l47_8 = true := by kernel_rfl
def g47_9 : List G := [⟨(some 2), .mv (.c (.int .i64 (0))), none⟩]
def d47_9 : Option (List (List Nat)) := none
def l47_9 : List Nat := []
theorem cd47_9 : dOk d47_9 g47_9 l47_9 = true := by kernel_rfl
def c47 : AC := (.seq (.reg d47_0 g47_0) (.seq (.seq (.reg d47_1 g47_1) (.cond (.t 20) (.seq (.reg d47_2 g47_2) .ret) .skip)) (.seq (.seq (.reg d47_3 g47_3) (.block 0 (.loop (.seq (.reg d47_4 g47_4) (.seq (.cond (.t 25) .skip (.exit 0)) (.seq (.block 1 (.seq (.reg d47_5 g47_5) (.seq (.reg d47_6 g47_6) (.cond (.t 65) (.seq (.reg d47_7 g47_7) .ret) .skip)))) (.reg d47_8 g47_8))))))) (.seq (.reg d47_9 g47_9) .ret))))
def r47 : List RV := [.tmp 2]
theorem cc47 : (Try.f47.body.bind (cCode Try.prog Try.f47.ntmps)) = some c47 := by kernel_rfl
theorem cr47 : cRes Try.prog Try.f47.results.toList = some r47 := by kernel_rfl
theorem ca47 : callable Try.prog 47 = true := by kernel_rfl
def g48_0 : List G := [⟨(some 1), .box (.t 0), none⟩,
  ⟨(some 2), .mv (.c (.int .i64 (0))), none⟩]
def d48_0 : Option (List (List Nat)) := none
def l48_0 : List Nat := []
theorem cd48_0 : dOk d48_0 g48_0 l48_0 = true := by kernel_rfl
def g48_1 : List G := [⟨(some 6), .fa 0 0 (.t 1), none⟩,
  ⟨(some 7), .ld (some 5) (.t 6), none⟩,
  ⟨(some 8), .call 44 [(.t 7)], none⟩,
  ⟨(some 9), .bin .neq (.t 8) (.c (.int .i64 (0))), none⟩,
  ⟨(some 10), .mv (.t 9), none⟩,
  ⟨(some 11), .fa 1 5 (.t 1), some (10, false)⟩,
  ⟨(some 12), .ld none (.t 11), some (10, false)⟩,
  ⟨(some 13), .call 94 [(.t 12), (.c (.int .i64 (0))), (.c (.int .i64 (2)))], some (10, false)⟩,
  ⟨(some 14), .un .not (.t 13), some (10, false)⟩,
  ⟨(some 15), .pick (.t 10) (.c (.bool true)) (.t 14), none⟩,
  ⟨(some 16), .mv (.t 15), none⟩,
  ⟨(some 17), .fa 2 6 (.t 1), some (16, false)⟩,
  ⟨(some 18), .ld none (.t 17), some (16, false)⟩,
  ⟨(some 19), .len (.t 18), some (16, false)⟩,
  ⟨(some 20), .bin .gtr (.t 19) (.c (.int .i64 (40))), some (16, false)⟩,
  ⟨(some 21), .pick (.t 16) (.c (.bool true)) (.t 20), none⟩]
def d48_1 : Option (List (List Nat)) := none
def l48_1 : List Nat := []
theorem cd48_1 : dOk d48_1 g48_1 l48_1 = true := by kernel_rfl
def g48_2 : List G := [⟨(some 2), .mv (.c (.int .i64 (13))), none⟩]
def d48_2 : Option (List (List Nat)) := none
def l48_2 : List Nat := []
theorem cd48_2 : dOk d48_2 g48_2 l48_2 = true := by kernel_rfl
def g48_3 : List G := [⟨(some 3), .mv (.c (.int .i64 (0))), none⟩]
def d48_3 : Option (List (List Nat)) := none
def l48_3 : List Nat := []
theorem cd48_3 : dOk d48_3 g48_3 l48_3 = true := by kernel_rfl
def g48_4 : List G := [⟨(some 22), .mv (.t 3), none⟩,
  ⟨(some 23), .fa 2 6 (.t 1), none⟩,
  ⟨(some 24), .ld none (.t 23), none⟩,
  ⟨(some 25), .len (.t 24), none⟩,
  ⟨(some 26), .bin .lss (.t 22) (.t 25), none⟩]
def d48_4 : Option (List (List Nat)) := none
def l48_4 : List Nat := []
theorem cd48_4 : dOk d48_4 g48_4 l48_4 = true := by kernel_rfl
def g48_5 : List G := [⟨(some 29), .fa 2 6 (.t 1), none⟩,
  ⟨(some 30), .ld none (.t 29), none⟩,
  ⟨(some 31), .mv (.t 3), none⟩,
  ⟨(some 32), .is 7 (.t 30) (.t 31), none⟩,
  ⟨(some 33), .ld (some 7) (.t 32), none⟩,
  ⟨(some 4), .alloc (.agg [.int .i64 (0), .agg [.int .i64 (0), .int .i64 (0), .int .i64 (0), .int .i64 (0), .int .i64 (0), .int .i64 (0)]]), none⟩,
  ⟨none, .st (some 7) (.t 4) (.t 33), none⟩]
def d48_5 : Option (List (List Nat)) := none
def l48_5 : List Nat := []
theorem cd48_5 : dOk d48_5 g48_5 l48_5 = true := by kernel_rfl
def g48_6 : List G := [⟨(some 34), .fa 0 0 (.t 4), none⟩,
  ⟨(some 35), .ld none (.t 34), none⟩,
  ⟨(some 36), .call 94 [(.t 35), (.c (.int .i64 (1))), (.c (.int .i64 (99)))], none⟩,
  ⟨(some 37), .un .not (.t 36), none⟩,
  ⟨(some 38), .mv (.t 37), none⟩,
  ⟨(some 39), .fa 1 1 (.t 4), some (38, false)⟩,
  ⟨(some 40), .ld (some 6) (.t 39), some (38, false)⟩,
  ⟨(some 41), .call 42 [(.t 40)], some (38, false)⟩,
  ⟨(some 42), .bin .neq (.t 41) (.c (.int .i64 (0))), some (38, false)⟩,
  ⟨(some 43), .pick (.t 38) (.c (.bool true)) (.t 42), none⟩,
  ⟨(some 44), .mv (.t 43), none⟩,
  ⟨(some 45), .mv (.t 3), some (44, false)⟩,
  ⟨(some 46), .bin .gtr (.t 45) (.c (.int .i64 (0))), some (44, false)⟩,
  ⟨(some 47), .mv (.t 46), some (44, false)⟩,
  ⟨(some 48), .fa 2 6 (.t 1), some (47, true)⟩,
  ⟨(some 49), .ld none (.t 48), some (47, true)⟩,
  ⟨(some 50), .mv (.t 3), some (47, true)⟩,
  ⟨(some 51), .bin .sub (.t 50) (.c (.int .i64 (1))), some (47, true)⟩,
  ⟨(some 52), .is 7 (.t 49) (.t 51), some (47, true)⟩,
  ⟨(some 53), .fa 0 0 (.t 52), some (47, true)⟩,
  ⟨(some 54), .ld none (.t 53), some (47, true)⟩,
  ⟨(some 55), .fa 0 0 (.t 4), some (47, true)⟩,
  ⟨(some 56), .ld none (.t 55), some (47, true)⟩,
  ⟨(some 57), .bin .geq (.t 54) (.t 56), some (47, true)⟩,
  ⟨(some 58), .pick (.t 47) (.t 57) (.c (.bool false)), some (44, false)⟩,
  ⟨(some 59), .pick (.t 44) (.c (.bool true)) (.t 58), none⟩]
def d48_6 : Option (List (List Nat)) := (some [[], [0], [1], [2], [3, 2], [4], [5, 4], [6, 4, 4], [7, 4], [4, 8], [9, 7], [10], [11, 10], [12, 10, 10], [13], [14, 13], [13], [16, 13], [15, 17, 13], [18, 13], [19, 13], [13], [21, 13], [20, 22, 13], [13, 23, 10], [10, 24]])
def l48_6 : List Nat := [0, 1, 3, 7, 15, 31, 63, 127, 255, 511, 1023, 2047, 4095, 8191, 16383, 32767, 16383, 81919, 262143, 524287, 1048575, 16383, 2113535, 8388607, 16777215, 33554431]
theorem cd48_6 : dOk d48_6 g48_6 l48_6 = true := by kernel_rfl
def g48_7 : List G := [⟨(some 2), .mv (.c (.int .i64 (13))), none⟩]
def d48_7 : Option (List (List Nat)) := none
def l48_7 : List Nat := []
theorem cd48_7 : dOk d48_7 g48_7 l48_7 = true := by kernel_rfl
def g48_8 : List G := [⟨(some 5), .mv (.c (.int .i64 (0))), none⟩]
def d48_8 : Option (List (List Nat)) := none
def l48_8 : List Nat := []
theorem cd48_8 : dOk d48_8 g48_8 l48_8 = true := by kernel_rfl
def g48_9 : List G := [⟨(some 60), .mv (.t 5), none⟩,
  ⟨(some 61), .mv (.t 3), none⟩,
  ⟨(some 62), .bin .lss (.t 60) (.t 61), none⟩]
def d48_9 : Option (List (List Nat)) := none
def l48_9 : List Nat := []
theorem cd48_9 : dOk d48_9 g48_9 l48_9 = true := by kernel_rfl
def g48_10 : List G := [⟨(some 65), .fa 0 0 (.t 1), none⟩,
  ⟨(some 66), .ld (some 5) (.t 65), none⟩,
  ⟨(some 67), .fa 2 6 (.t 1), none⟩,
  ⟨(some 68), .ld none (.t 67), none⟩,
  ⟨(some 69), .mv (.t 5), none⟩,
  ⟨(some 70), .is 7 (.t 68) (.t 69), none⟩,
  ⟨(some 71), .fa 1 1 (.t 70), none⟩,
  ⟨(some 72), .ld (some 6) (.t 71), none⟩,
  ⟨(some 73), .fa 1 1 (.t 4), none⟩,
  ⟨(some 74), .ld (some 6) (.t 73), none⟩,
  ⟨(some 75), .call 99 [(.t 66), (.t 72), (.t 74)], none⟩,
  ⟨(some 76), .fa 1 5 (.t 1), none⟩,
  ⟨(some 77), .ld none (.t 76), none⟩,
  ⟨(some 78), .bin .mul (.c (.int .i64 (2))) (.t 77), none⟩,
  ⟨(some 79), .bin .leq (.t 75) (.t 78), none⟩]
def d48_10 : Option (List (List Nat)) := (some [[], [0], [], [2], [], [3, 4], [5], [6], [], [8], [1, 7, 9], [], [11], [12], [10, 13]])
def l48_10 : List Nat := [0, 1, 0, 4, 0, 28, 60, 124, 0, 256, 1023, 0, 2048, 6144, 16383]
theorem cd48_10 : dOk d48_10 g48_10 l48_10 = true := by kernel_rfl
def g48_11 : List G := [⟨(some 2), .mv (.c (.int .i64 (13))), none⟩]
def d48_11 : Option (List (List Nat)) := none
def l48_11 : List Nat := []
theorem cd48_11 : dOk d48_11 g48_11 l48_11 = true := by kernel_rfl
def g48_12 : List G := [⟨(some 63), .mv (.t 5), none⟩,
  ⟨(some 64), .bin .add (.t 63) (.c (.int .i64 (1))), none⟩,
  ⟨(some 5), .mv (.t 64), none⟩]
def d48_12 : Option (List (List Nat)) := none
def l48_12 : List Nat := []
theorem cd48_12 : dOk d48_12 g48_12 l48_12 = true := by kernel_rfl
def g48_13 : List G := [⟨(some 27), .mv (.t 3), none⟩,
  ⟨(some 28), .bin .add (.t 27) (.c (.int .i64 (1))), none⟩,
  ⟨(some 3), .mv (.t 28), none⟩]
def d48_13 : Option (List (List Nat)) := none
def l48_13 : List Nat := []
theorem cd48_13 : dOk d48_13 g48_13 l48_13 = true := by kernel_rfl
def g48_14 : List G := [⟨(some 2), .mv (.c (.int .i64 (0))), none⟩]
def d48_14 : Option (List (List Nat)) := none
def l48_14 : List Nat := []
theorem cd48_14 : dOk d48_14 g48_14 l48_14 = true := by kernel_rfl
def c48 : AC := (.seq (.reg d48_0 g48_0) (.seq (.seq (.reg d48_1 g48_1) (.cond (.t 21) (.seq (.reg d48_2 g48_2) .ret) .skip)) (.seq (.seq (.reg d48_3 g48_3) (.block 0 (.loop (.seq (.seq (.reg d48_4 g48_4) (.cond (.t 26) .skip (.exit 0))) (.seq (.block 1 (.seq (.reg d48_5 g48_5) (.seq (.seq (.reg d48_6 g48_6) (.cond (.t 59) (.seq (.reg d48_7 g48_7) .ret) .skip)) (.seq (.reg d48_8 g48_8) (.block 2 (.loop (.seq (.seq (.reg d48_9 g48_9) (.cond (.t 62) .skip (.exit 2))) (.seq (.block 3 (.seq (.reg d48_10 g48_10) (.cond (.t 79) (.seq (.reg d48_11 g48_11) .ret) .skip))) (.reg d48_12 g48_12))))))))) (.reg d48_13 g48_13)))))) (.seq (.reg d48_14 g48_14) .ret))))
def r48 : List RV := [.tmp 2]
theorem cc48 : (Try.f48.body.bind (cCode Try.prog Try.f48.ntmps)) = some c48 := by kernel_rfl
theorem cr48 : cRes Try.prog Try.f48.results.toList = some r48 := by kernel_rfl
theorem ca48 : callable Try.prog 48 = true := by kernel_rfl
def g55_0 : List G := [⟨(some 1), .box (.t 0), none⟩,
  ⟨(some 2), .alloc (.agg [.int .i64 (0), .int .i64 (0), .int .i64 (0), .int .i64 (0), .int .i64 (0), .int .i64 (0)]), none⟩,
  ⟨(some 3), .alloc (.int .i64 (0)), none⟩]
def d55_0 : Option (List (List Nat)) := none
def l55_0 : List Nat := []
theorem cd55_0 : dOk d55_0 g55_0 l55_0 = true := by kernel_rfl
def g55_1 : List G := [⟨(some 8), .ld (some 7) (.t 1), none⟩,
  ⟨(some 9), .call 47 [(.t 8)], none⟩,
  ⟨(some 4), .mv (.t 9), none⟩]
def d55_1 : Option (List (List Nat)) := none
def l55_1 : List Nat := []
theorem cd55_1 : dOk d55_1 g55_1 l55_1 = true := by kernel_rfl
def g55_2 : List G := [⟨(some 10), .mv (.t 4), none⟩,
  ⟨(some 11), .bin .neq (.t 10) (.c (.int .i64 (0))), none⟩]
def d55_2 : Option (List (List Nat)) := none
def l55_2 : List Nat := []
theorem cd55_2 : dOk d55_2 g55_2 l55_2 = true := by kernel_rfl
def g55_3 : List G := [⟨(some 12), .bld [.int .i64 (0), .int .i64 (0), .int .i64 (0), .int .i64 (0), .int .i64 (0), .int .i64 (0)] [], none⟩,
  ⟨(some 13), .mv (.t 4), none⟩,
  ⟨none, .st (some 6) (.t 2) (.t 12), none⟩,
  ⟨none, .st none (.t 3) (.t 13), none⟩]
def d55_3 : Option (List (List Nat)) := none
def l55_3 : List Nat := []
theorem cd55_3 : dOk d55_3 g55_3 l55_3 = true := by kernel_rfl
def g55_4 : List G := [⟨(some 14), .fa 2 6 (.t 1), none⟩,
  ⟨(some 15), .ld none (.t 14), none⟩,
  ⟨(some 16), .len (.t 15), none⟩,
  ⟨(some 17), .bin .eql (.t 16) (.c (.int .i64 (40))), none⟩]
def d55_4 : Option (List (List Nat)) := none
def l55_4 : List Nat := []
theorem cd55_4 : dOk d55_4 g55_4 l55_4 = true := by kernel_rfl
def g55_5 : List G := [⟨(some 18), .bld [.int .i64 (0), .int .i64 (0), .int .i64 (0), .int .i64 (0), .int .i64 (0), .int .i64 (0)] [], none⟩,
  ⟨none, .st (some 6) (.t 2) (.t 18), none⟩,
  ⟨none, .st none (.t 3) (.c (.int .i64 (16))), none⟩]
def d55_5 : Option (List (List Nat)) := none
def l55_5 : List Nat := []
theorem cd55_5 : dOk d55_5 g55_5 l55_5 = true := by kernel_rfl
def g55_6 : List G := [⟨(some 19), .call 101 [], none⟩]
def d55_6 : Option (List (List Nat)) := none
def l55_6 : List Nat := []
theorem cd55_6 : dOk d55_6 g55_6 l55_6 = true := by kernel_rfl
def g55_7 : List G := [⟨(some 5), .alloc (.agg [.int .i64 (0), .int .i64 (0), .int .i64 (0), .int .i64 (0), .int .i64 (0), .int .i64 (0)]), none⟩,
  ⟨none, .st (some 6) (.t 5) (.t 20), none⟩]
def d55_7 : Option (List (List Nat)) := none
def l55_7 : List Nat := []
theorem cd55_7 : dOk d55_7 g55_7 l55_7 = true := by kernel_rfl
def g55_8 : List G := [⟨(some 21), .fa 2 6 (.t 1), none⟩,
  ⟨(some 22), .ld none (.t 21), none⟩,
  ⟨(some 23), .len (.t 22), none⟩,
  ⟨(some 24), .mv (.c (.int .i64 (0))), none⟩]
def d55_8 : Option (List (List Nat)) := none
def l55_8 : List Nat := []
theorem cd55_8 : dOk d55_8 g55_8 l55_8 = true := by kernel_rfl
def g55_9 : List G := [⟨(some 25), .bin .lss (.t 24) (.t 23), none⟩]
def d55_9 : Option (List (List Nat)) := none
def l55_9 : List Nat := []
theorem cd55_9 : dOk d55_9 g55_9 l55_9 = true := by kernel_rfl
def g55_10 : List G := [⟨(some 26), .is 7 (.t 22) (.t 24), none⟩,
  ⟨(some 27), .ld (some 7) (.t 26), none⟩,
  ⟨(some 7), .alloc (.agg [.int .i64 (0), .agg [.int .i64 (0), .int .i64 (0), .int .i64 (0), .int .i64 (0), .int .i64 (0), .int .i64 (0)]]), none⟩,
  ⟨none, .st (some 7) (.t 7) (.t 27), none⟩]
def d55_10 : Option (List (List Nat)) := none
def l55_10 : List Nat := []
theorem cd55_10 : dOk d55_10 g55_10 l55_10 = true := by kernel_rfl
def g55_11 : List G := [⟨(some 28), .fa 0 0 (.t 1), none⟩,
  ⟨(some 29), .ld (some 5) (.t 28), none⟩,
  ⟨(some 30), .fa 1 1 (.t 7), none⟩,
  ⟨(some 31), .ld (some 6) (.t 30), none⟩,
  ⟨(some 32), .ld (some 6) (.t 5), none⟩,
  ⟨(some 33), .call 87 [(.t 29), (.t 31), (.t 32)], none⟩,
  ⟨(some 34), .fa 1 5 (.t 1), none⟩,
  ⟨(some 35), .ld none (.t 34), none⟩,
  ⟨(some 36), .bin .mul (.c (.int .i64 (2))) (.t 35), none⟩,
  ⟨(some 37), .bin .leq (.t 33) (.t 36), none⟩]
def d55_11 : Option (List (List Nat)) := (some [[], [0], [], [2], [], [1, 3, 4], [], [6], [7], [5, 8]])
def l55_11 : List Nat := [0, 1, 0, 4, 0, 31, 0, 64, 192, 511]
theorem cd55_11 : dOk d55_11 g55_11 l55_11 = true := by kernel_rfl
def g55_12 : List G := [⟨(some 38), .bin .add (.t 24) (.c (.int .i64 (1))), none⟩,
  ⟨(some 24), .mv (.t 38), none⟩]
def d55_12 : Option (List (List Nat)) := none
def l55_12 : List Nat := []
theorem cd55_12 : dOk d55_12 g55_12 l55_12 = true := by kernel_rfl
def g55_13 : List G := [⟨(some 39), .ld (some 6) (.t 5), none⟩,
  ⟨none, .st (some 6) (.t 2) (.t 39), none⟩,
  ⟨none, .st none (.t 3) (.c (.int .i64 (0))), none⟩]
def d55_13 : Option (List (List Nat)) := none
def l55_13 : List Nat := []
theorem cd55_13 : dOk d55_13 g55_13 l55_13 = true := by kernel_rfl
def g55_14 : List G := [⟨(some 40), .bld [.int .i64 (0), .int .i64 (0), .int .i64 (0), .int .i64 (0), .int .i64 (0), .int .i64 (0)] [], none⟩,
  ⟨none, .st (some 6) (.t 2) (.t 40), none⟩,
  ⟨none, .st none (.t 3) (.c (.int .i64 (16))), none⟩]
def d55_14 : Option (List (List Nat)) := none
def l55_14 : List Nat := []
theorem cd55_14 : dOk d55_14 g55_14 l55_14 = true := by kernel_rfl
def c55 : AC := (.seq (.reg d55_0 g55_0) (.scope (.seq (.seq (.reg d55_1 g55_1) (.seq (.reg d55_2 g55_2) (.cond (.t 11) (.seq (.reg d55_3 g55_3) .ret) .skip))) (.seq (.seq (.reg d55_4 g55_4) (.cond (.t 17) (.seq (.reg d55_5 g55_5) .ret) .skip)) (.seq .label (.seq (.seq (.reg d55_6 g55_6) (.block 0 (.rfun (.t 19) [20] (.reg d55_7 g55_7) (.block 1 (.seq (.seq (.reg d55_8 g55_8) (.block 2 (.loop (.seq (.reg d55_9 g55_9) (.seq (.cond (.t 25) .skip (.exit 2)) (.seq (.block 3 (.seq (.reg d55_10 g55_10) (.seq (.reg d55_11 g55_11) (.cond (.t 37) (.exit 1) .skip)))) (.reg d55_12 g55_12))))))) (.seq (.reg d55_13 g55_13) .ret)))))) (.seq (.reg d55_14 g55_14) .ret)))))))
def r55 : List RV := [.cell 2 (some 6), .cell 3 none]
theorem cc55 : (Try.f55.body.bind (cCode Try.prog Try.f55.ntmps)) = some c55 := by kernel_rfl
theorem cr55 : cRes Try.prog Try.f55.results.toList = some r55 := by kernel_rfl
theorem ca55 : callable Try.prog 55 = true := by kernel_rfl
def g64_0 : List G := [⟨(some 2), .mv (.c (.int .i64 (0))), none⟩]
def d64_0 : Option (List (List Nat)) := none
def l64_0 : List Nat := []
theorem cd64_0 : dOk d64_0 g64_0 l64_0 = true := by kernel_rfl
def g64_1 : List G := [⟨(some 5), .mv (.t 0), none⟩,
  ⟨(some 6), .len (.t 5), none⟩,
  ⟨(some 7), .mv (.c (.int .i64 (0))), none⟩]
def d64_1 : Option (List (List Nat)) := none
def l64_1 : List Nat := []
theorem cd64_1 : dOk d64_1 g64_1 l64_1 = true := by kernel_rfl
def g64_2 : List G := [⟨(some 8), .bin .lss (.t 7) (.t 6), none⟩]
def d64_2 : Option (List (List Nat)) := none
def l64_2 : List Nat := []
theorem cd64_2 : dOk d64_2 g64_2 l64_2 = true := by kernel_rfl
def g64_3 : List G := [⟨(some 9), .is 1 (.t 5) (.t 7), none⟩,
  ⟨(some 10), .ld none (.t 9), none⟩,
  ⟨(some 4), .mv (.t 10), none⟩]
def d64_3 : Option (List (List Nat)) := none
def l64_3 : List Nat := []
theorem cd64_3 : dOk d64_3 g64_3 l64_3 = true := by kernel_rfl
def g64_4 : List G := [⟨(some 11), .mv (.t 4), none⟩,
  ⟨(some 12), .bin .neq (.t 11) (.c (.int .i64 (0))), none⟩]
def d64_4 : Option (List (List Nat)) := none
def l64_4 : List Nat := []
theorem cd64_4 : dOk d64_4 g64_4 l64_4 = true := by kernel_rfl
def g64_5 : List G := [⟨(some 13), .mv (.t 4), none⟩,
  ⟨(some 2), .mv (.t 13), none⟩]
def d64_5 : Option (List (List Nat)) := none
def l64_5 : List Nat := []
theorem cd64_5 : dOk d64_5 g64_5 l64_5 = true := by kernel_rfl
def g64_6 : List G := [⟨(some 14), .bin .add (.t 7) (.c (.int .i64 (1))), none⟩,
  ⟨(some 7), .mv (.t 14), none⟩]
def d64_6 : Option (List (List Nat)) := none
def l64_6 : List Nat := []
theorem cd64_6 : dOk d64_6 g64_6 l64_6 = true := by kernel_rfl
def g64_7 : List G := [⟨(some 2), .mv (.c (.int .i64 (0))), none⟩]
def d64_7 : Option (List (List Nat)) := none
def l64_7 : List Nat := []
theorem cd64_7 : dOk d64_7 g64_7 l64_7 = true := by kernel_rfl
def c64 : AC := (.seq (.reg d64_0 g64_0) (.seq (.seq (.reg d64_1 g64_1) (.block 0 (.loop (.seq (.reg d64_2 g64_2) (.seq (.cond (.t 8) .skip (.exit 0)) (.seq (.block 1 (.seq (.reg d64_3 g64_3) (.seq (.reg d64_4 g64_4) (.cond (.t 12) (.seq (.reg d64_5 g64_5) .ret) .skip)))) (.reg d64_6 g64_6))))))) (.seq (.reg d64_7 g64_7) .ret)))
def r64 : List RV := [.tmp 2]
theorem cc64 : (Try.f64.body.bind (cCode Try.prog Try.f64.ntmps)) = some c64 := by kernel_rfl
theorem cr64 : cRes Try.prog Try.f64.results.toList = some r64 := by kernel_rfl
theorem ca64 : callable Try.prog 64 = true := by kernel_rfl
def g65_0 : List G := [⟨(some 2), .box (.t 0), none⟩,
  ⟨(some 3), .box (.t 1), none⟩,
  ⟨(some 4), .mv (.c (.nils 7)), none⟩]
def d65_0 : Option (List (List Nat)) := none
def l65_0 : List Nat := []
theorem cd65_0 : dOk d65_0 g65_0 l65_0 = true := by kernel_rfl
def g65_1 : List G := [⟨(some 5), .fa 2 6 (.t 2), none⟩,
  ⟨(some 6), .ld none (.t 5), none⟩,
  ⟨(some 7), .call 85 [(.t 6)], none⟩,
  ⟨(some 8), .mk 105 [(.t 2), (.t 3)], none⟩,
  ⟨(some 9), .call 73 [(.t 7), (.t 8)], none⟩,
  ⟨(some 4), .mv (.t 9), none⟩]
def d65_1 : Option (List (List Nat)) := none
def l65_1 : List Nat := []
theorem cd65_1 : dOk d65_1 g65_1 l65_1 = true := by kernel_rfl
def c65 : AC := (.seq (.reg d65_0 g65_0) (.seq (.reg d65_1 g65_1) .ret))
def r65 : List RV := [.tmp 4]
theorem cc65 : (Try.f65.body.bind (cCode Try.prog Try.f65.ntmps)) = some c65 := by kernel_rfl
theorem cr65 : cRes Try.prog Try.f65.results.toList = some r65 := by kernel_rfl
theorem ca65 : callable Try.prog 65 = true := by kernel_rfl
def g66_0 : List G := [⟨(some 4), .mv (.c (.int .i64 (0))), none⟩]
def d66_0 : Option (List (List Nat)) := none
def l66_0 : List Nat := []
theorem cd66_0 : dOk d66_0 g66_0 l66_0 = true := by kernel_rfl
def g66_1 : List G := [⟨(some 9), .mv (.t 0), none⟩,
  ⟨(some 10), .len (.t 9), none⟩,
  ⟨(some 11), .mv (.c (.int .i64 (0))), none⟩]
def d66_1 : Option (List (List Nat)) := none
def l66_1 : List Nat := []
theorem cd66_1 : dOk d66_1 g66_1 l66_1 = true := by kernel_rfl
def g66_2 : List G := [⟨(some 12), .bin .lss (.t 11) (.t 10), none⟩]
def d66_2 : Option (List (List Nat)) := none
def l66_2 : List Nat := []
theorem cd66_2 : dOk d66_2 g66_2 l66_2 = true := by kernel_rfl
def g66_3 : List G := [⟨(some 13), .mv (.t 11), none⟩,
  ⟨(some 14), .is 1 (.t 9) (.t 11), none⟩,
  ⟨(some 15), .ld none (.t 14), none⟩,
  ⟨(some 5), .mv (.t 13), none⟩,
  ⟨(some 6), .mv (.t 15), none⟩]
def d66_3 : Option (List (List Nat)) := none
def l66_3 : List Nat := []
theorem cd66_3 : dOk d66_3 g66_3 l66_3 = true := by kernel_rfl
def g66_4 : List G := [⟨(some 16), .mv (.t 5), none⟩,
  ⟨(some 17), .mv (.t 1), none⟩,
  ⟨(some 18), .len (.t 17), none⟩,
  ⟨(some 19), .bin .geq (.t 16) (.t 18), none⟩]
def d66_4 : Option (List (List Nat)) := none
def l66_4 : List Nat := []
theorem cd66_4 : dOk d66_4 g66_4 l66_4 = true := by kernel_rfl
def g66_5 : List G := [⟨(some 4), .mv (.c (.int .i64 (1))), none⟩]
def d66_5 : Option (List (List Nat)) := none
def l66_5 : List Nat := []
theorem cd66_5 : dOk d66_5 g66_5 l66_5 = true := by kernel_rfl
def g66_6 : List G := [⟨(some 20), .mv (.t 1), none⟩,
  ⟨(some 21), .mv (.t 5), none⟩,
  ⟨(some 22), .is 1 (.t 20) (.t 21), none⟩,
  ⟨(some 23), .ld none (.t 22), none⟩,
  ⟨(some 7), .mv (.t 23), none⟩]
def d66_6 : Option (List (List Nat)) := none
def l66_6 : List Nat := []
theorem cd66_6 : dOk d66_6 g66_6 l66_6 = true := by kernel_rfl
def g66_7 : List G := [⟨(some 24), .mv (.t 6), none⟩,
  ⟨(some 25), .mv (.t 7), none⟩,
  ⟨(some 26), .call 106 [(.t 24), (.t 25)], none⟩,
  ⟨(some 8), .mv (.t 26), none⟩]
def d66_7 : Option (List (List Nat)) := none
def l66_7 : List Nat := []
theorem cd66_7 : dOk d66_7 g66_7 l66_7 = true := by kernel_rfl
def g66_8 : List G := [⟨(some 27), .mv (.t 8), none⟩,
  ⟨(some 28), .bin .neq (.t 27) (.c (.int .i64 (0))), none⟩]
def d66_8 : Option (List (List Nat)) := none
def l66_8 : List Nat := []
theorem cd66_8 : dOk d66_8 g66_8 l66_8 = true := by kernel_rfl
def g66_9 : List G := [⟨(some 29), .mv (.t 8), none⟩,
  ⟨(some 4), .mv (.t 29), none⟩]
def d66_9 : Option (List (List Nat)) := none
def l66_9 : List Nat := []
theorem cd66_9 : dOk d66_9 g66_9 l66_9 = true := by kernel_rfl
def g66_10 : List G := [⟨(some 30), .bin .add (.t 11) (.c (.int .i64 (1))), none⟩,
  ⟨(some 11), .mv (.t 30), none⟩]
def d66_10 : Option (List (List Nat)) := none
def l66_10 : List Nat := []
theorem cd66_10 : dOk d66_10 g66_10 l66_10 = true := by kernel_rfl
def g66_11 : List G := [⟨(some 31), .mv (.t 0), none⟩,
  ⟨(some 32), .len (.t 31), none⟩,
  ⟨(some 33), .mv (.t 1), none⟩,
  ⟨(some 34), .len (.t 33), none⟩,
  ⟨(some 35), .bin .lss (.t 32) (.t 34), none⟩]
def d66_11 : Option (List (List Nat)) := none
def l66_11 : List Nat := []
theorem cd66_11 : dOk d66_11 g66_11 l66_11 = true := by kernel_rfl
def g66_12 : List G := [⟨(some 4), .mv (.c (.int .i64 (-1))), none⟩]
def d66_12 : Option (List (List Nat)) := none
def l66_12 : List Nat := []
theorem cd66_12 : dOk d66_12 g66_12 l66_12 = true := by kernel_rfl
def g66_13 : List G := [⟨(some 4), .mv (.c (.int .i64 (0))), none⟩]
def d66_13 : Option (List (List Nat)) := none
def l66_13 : List Nat := []
theorem cd66_13 : dOk d66_13 g66_13 l66_13 = true := by kernel_rfl
def c66 : AC := (.seq (.reg d66_0 g66_0) (.seq (.seq (.reg d66_1 g66_1) (.block 0 (.loop (.seq (.reg d66_2 g66_2) (.seq (.cond (.t 12) .skip (.exit 0)) (.seq (.block 1 (.seq (.reg d66_3 g66_3) (.seq (.seq (.reg d66_4 g66_4) (.cond (.t 19) (.seq (.reg d66_5 g66_5) .ret) .skip)) (.seq (.reg d66_6 g66_6) (.seq (.reg d66_7 g66_7) (.seq (.reg d66_8 g66_8) (.cond (.t 28) (.seq (.reg d66_9 g66_9) .ret) .skip))))))) (.reg d66_10 g66_10))))))) (.seq (.seq (.reg d66_11 g66_11) (.cond (.t 35) (.seq (.reg d66_12 g66_12) .ret) .skip)) (.seq (.reg d66_13 g66_13) .ret))))
def r66 : List RV := [.tmp 4]
theorem cc66 : (Try.f66.body.bind (cCode Try.prog Try.f66.ntmps)) = some c66 := by kernel_rfl
theorem cr66 : cRes Try.prog Try.f66.results.toList = some r66 := by kernel_rfl
theorem ca66 : callable Try.prog 66 = true := by kernel_rfl
def g67_0 : List G := [⟨(some 3), .box (.t 0), none⟩,
  ⟨(some 6), .mv (.c (.bool false)), none⟩]
def d67_0 : Option (List (List Nat)) := none
def l67_0 : List Nat := []
theorem cd67_0 : dOk d67_0 g67_0 l67_0 = true := by kernel_rfl
def g67_1 : List G := [⟨(some 11), .mv (.t 1), none⟩,
  ⟨(some 12), .len (.t 11), none⟩,
  ⟨(some 13), .mv (.c (.int .i64 (0))), none⟩]
def d67_1 : Option (List (List Nat)) := none
def l67_1 : List Nat := []
theorem cd67_1 : dOk d67_1 g67_1 l67_1 = true := by kernel_rfl
def g67_2 : List G := [⟨(some 14), .bin .lss (.t 13) (.t 12), none⟩]
def d67_2 : Option (List (List Nat)) := none
def l67_2 : List Nat := []
theorem cd67_2 : dOk d67_2 g67_2 l67_2 = true := by kernel_rfl
def g67_3 : List G := [⟨(some 15), .mv (.t 13), none⟩,
  ⟨(some 16), .is 7 (.t 11) (.t 13), none⟩,
  ⟨(some 17), .ld (some 7) (.t 16), none⟩,
  ⟨(some 8), .alloc (.agg [.int .i64 (0), .agg [.int .i64 (0), .int .i64 (0), .int .i64 (0), .int .i64 (0), .int .i64 (0), .int .i64 (0)]]), none⟩,
  ⟨(some 7), .mv (.t 15), none⟩,
  ⟨none, .st (some 7) (.t 8) (.t 17), none⟩]
def d67_3 : Option (List (List Nat)) := none
def l67_3 : List Nat := []
theorem cd67_3 : dOk d67_3 g67_3 l67_3 = true := by kernel_rfl
def g67_4 : List G := [⟨(some 18), .mv (.t 1), none⟩,
  ⟨(some 19), .mv (.t 7), none⟩,
  ⟨(some 20), .sl 7 (.t 18) none (some (.t 19)) none, none⟩,
  ⟨(some 21), .len (.t 20), none⟩,
  ⟨(some 22), .mv (.c (.int .i64 (0))), none⟩]
def d67_4 : Option (List (List Nat)) := none
def l67_4 : List Nat := []
theorem cd67_4 : dOk d67_4 g67_4 l67_4 = true := by kernel_rfl
def g67_5 : List G := [⟨(some 23), .bin .lss (.t 22) (.t 21), none⟩]
def d67_5 : Option (List (List Nat)) := none
def l67_5 : List Nat := []
theorem cd67_5 : dOk d67_5 g67_5 l67_5 = true := by kernel_rfl
def g67_6 : List G := [⟨(some 24), .is 7 (.t 20) (.t 22), none⟩,
  ⟨(some 25), .ld (some 7) (.t 24), none⟩,
  ⟨(some 10), .alloc (.agg [.int .i64 (0), .agg [.int .i64 (0), .int .i64 (0), .int .i64 (0), .int .i64 (0), .int .i64 (0), .int .i64 (0)]]), none⟩,
  ⟨none, .st (some 7) (.t 10) (.t 25), none⟩]
def d67_6 : Option (List (List Nat)) := none
def l67_6 : List Nat := []
theorem cd67_6 : dOk d67_6 g67_6 l67_6 = true := by kernel_rfl
def g67_7 : List G := [⟨(some 26), .mv (.t 2), none⟩,
  ⟨(some 27), .mk 107 [(.t 3), (.t 8), (.t 10)], none⟩,
  ⟨(some 28), .call 75 [(.t 26), (.t 27)], none⟩,
  ⟨(some 29), .un .not (.t 28), none⟩]
def d67_7 : Option (List (List Nat)) := none
def l67_7 : List Nat := []
theorem cd67_7 : dOk d67_7 g67_7 l67_7 = true := by kernel_rfl
def g67_8 : List G := [⟨(some 6), .mv (.c (.bool false)), none⟩]
def d67_8 : Option (List (List Nat)) := none
def l67_8 : List Nat := []
theorem cd67_8 : dOk d67_8 g67_8 l67_8 = true := by kernel_rfl
def g67_9 : List G := [⟨(some 30), .bin .add (.t 22) (.c (.int .i64 (1))), none⟩,
  ⟨(some 22), .mv (.t 30), none⟩]
def d67_9 : Option (List (List Nat)) := none
def l67_9 : List Nat := []
theorem cd67_9 : dOk d67_9 g67_9 l67_9 = true := by kernel_rfl
def g67_10 : List G := [⟨(some 31), .bin .add (.t 13) (.c (.int .i64 (1))), none⟩,
  ⟨(some 13), .mv (.t 31), none⟩]
def d67_10 : Option (List (List Nat)) := none
def l67_10 : List Nat := []
theorem cd67_10 : dOk d67_10 g67_10 l67_10 = true := by kernel_rfl
def g67_11 : List G := [⟨(some 6), .mv (.c (.bool true)), none⟩]
def d67_11 : Option (List (List Nat)) := none
def l67_11 : List Nat := []
theorem cd67_11 : dOk d67_11 g67_11 l67_11 = true := by kernel_rfl
def c67 : AC := (.seq (.reg d67_0 g67_0) (.seq (.seq (.reg d67_1 g67_1) (.block 0 (.loop (.seq (.reg d67_2 g67_2) (.seq (.cond (.t 14) .skip (.exit 0)) (.seq (.block 1 (.seq (.reg d67_3 g67_3) (.seq (.reg d67_4 g67_4) (.block 2 (.loop (.seq (.reg d67_5 g67_5) (.seq (.cond (.t 23) .skip (.exit 2)) (.seq (.block 3 (.seq (.reg d67_6 g67_6) (.seq (.reg d67_7 g67_7) (.cond (.t 29) (.seq (.reg d67_8 g67_8) .ret) .skip)))) (.reg d67_9 g67_9))))))))) (.reg d67_10 g67_10))))))) (.seq (.reg d67_11 g67_11) .ret)))
def r67 : List RV := [.tmp 6]
theorem cc67 : (Try.f67.body.bind (cCode Try.prog Try.f67.ntmps)) = some c67 := by kernel_rfl
theorem cr67 : cRes Try.prog Try.f67.results.toList = some r67 := by kernel_rfl
theorem ca67 : callable Try.prog 67 = true := by kernel_rfl
def g68_0 : List G := [⟨(some 2), .mv (.c (.nils 1)), none⟩]
def d68_0 : Option (List (List Nat)) := none
def l68_0 : List Nat := []
theorem cd68_0 : dOk d68_0 g68_0 l68_0 = true := by kernel_rfl
def g68_1 : List G := [⟨(some 3), .mv (.c (.nils 1)), none⟩]
def d68_1 : Option (List (List Nat)) := none
def l68_1 : List Nat := []
theorem cd68_1 : dOk d68_1 g68_1 l68_1 = true := by kernel_rfl
def g68_2 : List G := [⟨(some 4), .mv (.c (.int .i64 (0))), none⟩]
def d68_2 : Option (List (List Nat)) := none
def l68_2 : List Nat := []
theorem cd68_2 : dOk d68_2 g68_2 l68_2 = true := by kernel_rfl
def g68_3 : List G := [⟨(some 5), .mv (.t 4), none⟩,
  ⟨(some 6), .bin .lss (.t 5) (.c (.int .i64 (6))), none⟩]
def d68_3 : Option (List (List Nat)) := none
def l68_3 : List Nat := []
theorem cd68_3 : dOk d68_3 g68_3 l68_3 = true := by kernel_rfl
def g68_4 : List G := [⟨(some 9), .mv (.t 0), none⟩,
  ⟨(some 10), .mv (.t 4), none⟩,
  ⟨(some 11), .bin .shl (.c (.int .i64 (1))) (.t 10), none⟩,
  ⟨(some 12), .bin .and (.t 9) (.t 11), none⟩,
  ⟨(some 13), .bin .neq (.t 12) (.c (.int .i64 (0))), none⟩]
def d68_4 : Option (List (List Nat)) := none
def l68_4 : List Nat := []
theorem cd68_4 : dOk d68_4 g68_4 l68_4 = true := by kernel_rfl
def g68_5 : List G := [⟨(some 14), .mv (.t 3), none⟩,
  ⟨(some 15), .mv (.t 4), none⟩,
  ⟨(some 16), .bs 1 [(.t 15)], none⟩,
  ⟨(some 17), .app 3 1 8 (.int .i64 (0)) (.t 14) (.t 16), none⟩,
  ⟨(some 3), .mv (.t 17), none⟩]
def d68_5 : Option (List (List Nat)) := none
def l68_5 : List Nat := []
theorem cd68_5 : dOk d68_5 g68_5 l68_5 = true := by kernel_rfl
def g68_6 : List G := [⟨(some 7), .mv (.t 4), none⟩,
  ⟨(some 8), .bin .add (.t 7) (.c (.int .i64 (1))), none⟩,
  ⟨(some 4), .mv (.t 8), none⟩]
def d68_6 : Option (List (List Nat)) := none
def l68_6 : List Nat := []
theorem cd68_6 : dOk d68_6 g68_6 l68_6 = true := by kernel_rfl
def g68_7 : List G := [⟨(some 18), .mv (.t 3), none⟩,
  ⟨(some 2), .mv (.t 18), none⟩]
def d68_7 : Option (List (List Nat)) := none
def l68_7 : List Nat := []
theorem cd68_7 : dOk d68_7 g68_7 l68_7 = true := by kernel_rfl
def c68 : AC := (.seq (.reg d68_0 g68_0) (.seq (.reg d68_1 g68_1) (.seq (.seq (.reg d68_2 g68_2) (.block 0 (.loop (.seq (.seq (.reg d68_3 g68_3) (.cond (.t 6) .skip (.exit 0))) (.seq (.block 1 (.seq (.reg d68_4 g68_4) (.cond (.t 13) (.reg d68_5 g68_5) .skip))) (.reg d68_6 g68_6)))))) (.seq (.reg d68_7 g68_7) .ret))))
def r68 : List RV := [.tmp 2]
theorem cc68 : (Try.f68.body.bind (cCode Try.prog Try.f68.ntmps)) = some c68 := by kernel_rfl
theorem cr68 : cRes Try.prog Try.f68.results.toList = some r68 := by kernel_rfl
theorem ca68 : callable Try.prog 68 = true := by kernel_rfl
def g69_0 : List G := [⟨(some 3), .box (.t 0), none⟩,
  ⟨(some 4), .box (.t 1), none⟩,
  ⟨(some 6), .mv (.c (.bool false)), none⟩]
def d69_0 : Option (List (List Nat)) := none
def l69_0 : List Nat := []
theorem cd69_0 : dOk d69_0 g69_0 l69_0 = true := by kernel_rfl
def g69_1 : List G := [⟨(some 14), .ld (some 7) (.t 3), none⟩,
  ⟨(some 15), .ld (some 6) (.t 4), none⟩,
  ⟨(some 16), .call 84 [(.t 14), (.t 15)], none⟩,
  ⟨(some 7), .mv (.t 16), none⟩]
def d69_1 : Option (List (List Nat)) := none
def l69_1 : List Nat := []
theorem cd69_1 : dOk d69_1 g69_1 l69_1 = true := by kernel_rfl
def g69_2 : List G := [⟨(some 8), .mv (.c (.int .i64 (0))), none⟩]
def d69_2 : Option (List (List Nat)) := none
def l69_2 : List Nat := []
theorem cd69_2 : dOk d69_2 g69_2 l69_2 = true := by kernel_rfl
def g69_3 : List G := [⟨(some 17), .mv (.t 8), none⟩,
  ⟨(some 18), .mv (.t 7), none⟩,
  ⟨(some 19), .len (.t 18), none⟩,
  ⟨(some 20), .bin .lss (.t 17) (.t 19), none⟩]
def d69_3 : Option (List (List Nat)) := none
def l69_3 : List Nat := []
theorem cd69_3 : dOk d69_3 g69_3 l69_3 = true := by kernel_rfl
def g69_4 : List G := [⟨(some 9), .mv (.c (.int .i64 (0))), none⟩]
def d69_4 : Option (List (List Nat)) := none
def l69_4 : List Nat := []
theorem cd69_4 : dOk d69_4 g69_4 l69_4 = true := by kernel_rfl
def g69_5 : List G := [⟨(some 23), .mv (.t 9), none⟩,
  ⟨(some 24), .mv (.t 8), none⟩,
  ⟨(some 25), .bin .lss (.t 23) (.t 24), none⟩]
def d69_5 : Option (List (List Nat)) := none
def l69_5 : List Nat := []
theorem cd69_5 : dOk d69_5 g69_5 l69_5 = true := by kernel_rfl
def g69_6 : List G := [⟨(some 28), .fa 2 6 (.t 3), none⟩,
  ⟨(some 29), .ld none (.t 28), none⟩,
  ⟨(some 30), .ld (some 7) (.t 3), none⟩,
  ⟨(some 31), .mv (.t 7), none⟩,
  ⟨(some 32), .mv (.t 8), none⟩,
  ⟨(some 33), .is 1 (.t 31) (.t 32), none⟩,
  ⟨(some 34), .ld none (.t 33), none⟩,
  ⟨(some 35), .call 80 [(.t 30), (.t 34)], none⟩,
  ⟨(some 36), .is 7 (.t 29) (.t 35), none⟩,
  ⟨(some 37), .fa 1 1 (.t 36), none⟩,
  ⟨(some 38), .ld (some 6) (.t 37), none⟩,
  ⟨(some 10), .alloc (.agg [.int .i64 (0), .int .i64 (0), .int .i64 (0), .int .i64 (0), .int .i64 (0), .int .i64 (0)]), none⟩,
  ⟨none, .st (some 6) (.t 10) (.t 38), none⟩]
def d69_6 : Option (List (List Nat)) := (some [[], [0], [], [], [], [3, 4], [5], [2, 6], [1, 7], [8], [9], [], [11, 10, 7, 0, 1, 2, 3, 4, 5, 6, 7, 8, 9, 10, 11]])
def l69_6 : List Nat := [0, 1, 0, 0, 0, 24, 56, 124, 255, 511, 1023, 0, 4095]
theorem cd69_6 : dOk d69_6 g69_6 l69_6 = true := by kernel_rfl
def g69_7 : List G := [⟨(some 39), .fa 2 6 (.t 3), none⟩,
  ⟨(some 40), .ld none (.t 39), none⟩,
  ⟨(some 41), .ld (some 7) (.t 3), none⟩,
  ⟨(some 42), .mv (.t 7), none⟩,
  ⟨(some 43), .mv (.t 9), none⟩,
  ⟨(some 44), .is 1 (.t 42) (.t 43), none⟩,
  ⟨(some 45), .ld none (.t 44), none⟩,
  ⟨(some 46), .call 80 [(.t 41), (.t 45)], none⟩,
  ⟨(some 47), .is 7 (.t 40) (.t 46), none⟩,
  ⟨(some 48), .fa 1 1 (.t 47), none⟩,
  ⟨(some 49), .ld (some 6) (.t 48), none⟩,
  ⟨(some 11), .alloc (.agg [.int .i64 (0), .int .i64 (0), .int .i64 (0), .int .i64 (0), .int .i64 (0), .int .i64 (0)]), none⟩,
  ⟨none, .st (some 6) (.t 11) (.t 49), none⟩]
def d69_7 : Option (List (List Nat)) := (some [[], [0], [], [], [], [3, 4], [5], [2, 6], [1, 7], [8], [9], [], [11, 10, 7, 0, 1, 2, 3, 4, 5, 6, 7, 8, 9, 10, 11]])
def l69_7 : List Nat := [0, 1, 0, 0, 0, 24, 56, 124, 255, 511, 1023, 0, 4095]
theorem cd69_7 : dOk d69_7 g69_7 l69_7 = true := by kernel_rfl
def g69_8 : List G := [⟨(some 12), .mv (.c (.bool false)), none⟩]
def d69_8 : Option (List (List Nat)) := none
def l69_8 : List Nat := []
theorem cd69_8 : dOk d69_8 g69_8 l69_8 = true := by kernel_rfl
def g69_9 : List G := [⟨(some 13), .mv (.c (.int .i64 (0))), none⟩]
def d69_9 : Option (List (List Nat)) := none
def l69_9 : List Nat := []
theorem cd69_9 : dOk d69_9 g69_9 l69_9 = true := by kernel_rfl
def g69_10 : List G := [⟨(some 50), .mv (.t 13), none⟩,
  ⟨(some 51), .mv (.t 2), none⟩,
  ⟨(some 52), .len (.t 51), none⟩,
  ⟨(some 53), .bin .lss (.t 50) (.t 52), none⟩]
def d69_10 : Option (List (List Nat)) := none
def l69_10 : List Nat := []
theorem cd69_10 : dOk d69_10 g69_10 l69_10 = true := by kernel_rfl
def g69_11 : List G := [⟨(some 56), .mv (.t 12), none⟩,
  ⟨(some 57), .mv (.t 56), none⟩,
  ⟨(some 58), .mv (.t 2), some (57, false)⟩,
  ⟨(some 59), .mv (.t 13), some (57, false)⟩,
  ⟨(some 60), .is 1 (.t 58) (.t 59), some (57, false)⟩,
  ⟨(some 61), .ld none (.t 60), some (57, false)⟩,
  ⟨(some 62), .ia 6 1 (.t 10) (.t 61), some (57, false)⟩,
  ⟨(some 63), .ld none (.t 62), some (57, false)⟩,
  ⟨(some 64), .fa 0 0 (.t 3), some (57, false)⟩,
  ⟨(some 65), .ia 5 1 (.t 64) (.t 63), some (57, false)⟩,
  ⟨(some 66), .ld none (.t 65), some (57, false)⟩,
  ⟨(some 67), .mv (.t 2), some (57, false)⟩,
  ⟨(some 68), .mv (.t 13), some (57, false)⟩,
  ⟨(some 69), .is 1 (.t 67) (.t 68), some (57, false)⟩,
  ⟨(some 70), .ld none (.t 69), some (57, false)⟩,
  ⟨(some 71), .ia 6 1 (.t 11) (.t 70), some (57, false)⟩,
  ⟨(some 72), .ld none (.t 71), some (57, false)⟩,
  ⟨(some 73), .fa 0 0 (.t 3), some (57, false)⟩,
  ⟨(some 74), .ia 5 1 (.t 73) (.t 72), some (57, false)⟩,
  ⟨(some 75), .ld none (.t 74), some (57, false)⟩,
  ⟨(some 76), .bin .and (.t 66) (.t 75), some (57, false)⟩,
  ⟨(some 77), .bin .eql (.t 76) (.c (.int .i64 (0))), some (57, false)⟩,
  ⟨(some 78), .pick (.t 57) (.c (.bool true)) (.t 77), none⟩,
  ⟨(some 12), .mv (.t 78), none⟩]
def d69_11 : Option (List (List Nat)) := (some [[], [0], [1], [1], [2, 3, 1], [4, 1], [5, 1], [6, 1], [1], [8, 7, 1], [9, 1], [1], [1], [11, 12, 1], [13, 1], [14, 1], [15, 1], [1], [17, 16, 1], [18, 1], [10, 19, 1], [20, 1], [1, 21], [22, 1, 0, 1, 2, 3, 4, 5, 6, 7, 8, 9, 10, 11, 12, 13, 14, 15, 16, 17, 18, 19, 20, 21, 22]])
def l69_11 : List Nat := [0, 1, 3, 3, 15, 31, 63, 127, 3, 511, 1023, 3, 3, 6147, 14339, 30723, 63491, 3, 260099, 522243, 1048575, 2097151, 4194303, 8388607]
theorem cd69_11 : dOk d69_11 g69_11 l69_11 = true := by kernel_rfl
def g69_12 : List G := [⟨(some 54), .mv (.t 13), none⟩,
  ⟨(some 55), .bin .add (.t 54) (.c (.int .i64 (1))), none⟩,
  ⟨(some 13), .mv (.t 55), none⟩]
def d69_12 : Option (List (List Nat)) := none
def l69_12 : List Nat := []
theorem cd69_12 : dOk d69_12 g69_12 l69_12 = true := by kernel_rfl
def g69_13 : List G := [⟨(some 79), .mv (.t 12), none⟩,
  ⟨(some 80), .un .not (.t 79), none⟩]
def d69_13 : Option (List (List Nat)) := none
def l69_13 : List Nat := []
theorem cd69_13 : dOk d69_13 g69_13 l69_13 = true := by kernel_rfl
def g69_14 : List G := [⟨(some 6), .mv (.c (.bool false)), none⟩]
def d69_14 : Option (List (List Nat)) := none
def l69_14 : List Nat := []
theorem cd69_14 : dOk d69_14 g69_14 l69_14 = true := by kernel_rfl
def g69_15 : List G := [⟨(some 26), .mv (.t 9), none⟩,
  ⟨(some 27), .bin .add (.t 26) (.c (.int .i64 (1))), none⟩,
  ⟨(some 9), .mv (.t 27), none⟩]
def d69_15 : Option (List (List Nat)) := none
def l69_15 : List Nat := []
theorem cd69_15 : dOk d69_15 g69_15 l69_15 = true := by kernel_rfl
def g69_16 : List G := [⟨(some 21), .mv (.t 8), none⟩,
  ⟨(some 22), .bin .add (.t 21) (.c (.int .i64 (1))), none⟩,
  ⟨(some 8), .mv (.t 22), none⟩]
def d69_16 : Option (List (List Nat)) := none
def l69_16 : List Nat := []
theorem cd69_16 : dOk d69_16 g69_16 l69_16 = true := by kernel_rfl
def g69_17 : List G := [⟨(some 6), .mv (.c (.bool true)), none⟩]
def d69_17 : Option (List (List Nat)) := none
def l69_17 : List Nat := []
theorem cd69_17 : dOk d69_17 g69_17 l69_17 = true := by kernel_rfl
def c69 : AC := (.seq (.reg d69_0 g69_0) (.seq (.reg d69_1 g69_1) (.seq (.seq (.reg d69_2 g69_2) (.block 0 (.loop (.seq (.seq (.reg d69_3 g69_3) (.cond (.t 20) .skip (.exit 0))) (.seq (.block 1 (.seq (.reg d69_4 g69_4) (.block 2 (.loop (.seq (.seq (.reg d69_5 g69_5) (.cond (.t 25) .skip (.exit 2))) (.seq (.block 3 (.seq (.reg d69_6 g69_6) (.seq (.reg d69_7 g69_7) (.seq (.reg d69_8 g69_8) (.seq (.seq (.reg d69_9 g69_9) (.block 4 (.loop (.seq (.seq (.reg d69_10 g69_10) (.cond (.t 53) .skip (.exit 4))) (.seq (.block 5 (.reg d69_11 g69_11)) (.reg d69_12 g69_12)))))) (.seq (.reg d69_13 g69_13) (.cond (.t 80) (.seq (.reg d69_14 g69_14) .ret) .skip))))))) (.reg d69_15 g69_15))))))) (.reg d69_16 g69_16)))))) (.seq (.reg d69_17 g69_17) .ret))))
def r69 : List RV := [.tmp 6]
theorem cc69 : (Try.f69.body.bind (cCode Try.prog Try.f69.ntmps)) = some c69 := by kernel_rfl
theorem cr69 : cRes Try.prog Try.f69.results.toList = some r69 := by kernel_rfl
theorem ca69 : callable Try.prog 69 = true := by kernel_rfl
def g70_0 : List G := [⟨(some 4), .mv (.c (.bool false)), none⟩]
def d70_0 : Option (List (List Nat)) := none
def l70_0 : List Nat := []
theorem cd70_0 : dOk d70_0 g70_0 l70_0 = true := by kernel_rfl
def g70_1 : List G := [⟨(some 5), .mv (.c (.int .i64 (0))), none⟩]
def d70_1 : Option (List (List Nat)) := none
def l70_1 : List Nat := []
theorem cd70_1 : dOk d70_1 g70_1 l70_1 = true := by kernel_rfl
def g70_2 : List G := [⟨(some 6), .mv (.t 5), none⟩,
  ⟨(some 7), .mv (.t 0), none⟩,
  ⟨(some 8), .len (.t 7), none⟩,
  ⟨(some 9), .bin .lss (.t 6) (.t 8), none⟩,
  ⟨(some 10), .mv (.t 9), none⟩,
  ⟨(some 11), .mv (.t 5), some (10, true)⟩,
  ⟨(some 12), .mv (.t 1), some (10, true)⟩,
  ⟨(some 13), .len (.t 12), some (10, true)⟩,
  ⟨(some 14), .bin .lss (.t 11) (.t 13), some (10, true)⟩,
  ⟨(some 15), .pick (.t 10) (.t 14) (.c (.bool false)), none⟩]
def d70_2 : Option (List (List Nat)) := none
def l70_2 : List Nat := []
theorem cd70_2 : dOk d70_2 g70_2 l70_2 = true := by kernel_rfl
def g70_3 : List G := [⟨(some 18), .mv (.t 0), none⟩,
  ⟨(some 19), .mv (.t 5), none⟩,
  ⟨(some 20), .is 1 (.t 18) (.t 19), none⟩,
  ⟨(some 21), .ld none (.t 20), none⟩,
  ⟨(some 22), .mv (.t 1), none⟩,
  ⟨(some 23), .mv (.t 5), none⟩,
  ⟨(some 24), .is 1 (.t 22) (.t 23), none⟩,
  ⟨(some 25), .ld none (.t 24), none⟩,
  ⟨(some 26), .bin .neq (.t 21) (.t 25), none⟩]
def d70_3 : Option (List (List Nat)) := (some [[], [], [0, 1], [2], [], [], [4, 5], [6], [3, 7]])
def l70_3 : List Nat := [0, 0, 3, 7, 0, 0, 48, 112, 255]
theorem cd70_3 : dOk d70_3 g70_3 l70_3 = true := by kernel_rfl
def g70_4 : List G := [⟨(some 27), .mv (.t 0), none⟩,
  ⟨(some 28), .mv (.t 5), none⟩,
  ⟨(some 29), .is 1 (.t 27) (.t 28), none⟩,
  ⟨(some 30), .ld none (.t 29), none⟩,
  ⟨(some 31), .mv (.t 1), none⟩,
  ⟨(some 32), .mv (.t 5), none⟩,
  ⟨(some 33), .is 1 (.t 31) (.t 32), none⟩,
  ⟨(some 34), .ld none (.t 33), none⟩,
  ⟨(some 35), .bin .lss (.t 30) (.t 34), none⟩,
  ⟨(some 4), .mv (.t 35), none⟩]
def d70_4 : Option (List (List Nat)) := (some [[], [], [0, 1], [2], [], [], [4, 5], [6], [3, 7], [8, 0, 1, 2, 3, 4, 5, 6, 7, 8]])
def l70_4 : List Nat := [0, 0, 3, 7, 0, 0, 48, 112, 255, 511]
theorem cd70_4 : dOk d70_4 g70_4 l70_4 = true := by kernel_rfl
def g70_5 : List G := [⟨(some 16), .mv (.t 5), none⟩,
  ⟨(some 17), .bin .add (.t 16) (.c (.int .i64 (1))), none⟩,
  ⟨(some 5), .mv (.t 17), none⟩]
def d70_5 : Option (List (List Nat)) := none
def l70_5 : List Nat := []
theorem cd70_5 : dOk d70_5 g70_5 l70_5 = true := by kernel_rfl
def g70_6 : List G := [⟨(some 36), .mv (.t 0), none⟩,
  ⟨(some 37), .len (.t 36), none⟩,
  ⟨(some 38), .mv (.t 1), none⟩,
  ⟨(some 39), .len (.t 38), none⟩,
  ⟨(some 40), .bin .lss (.t 37) (.t 39), none⟩,
  ⟨(some 4), .mv (.t 40), none⟩]
def d70_6 : Option (List (List Nat)) := none
def l70_6 : List Nat := []
theorem cd70_6 : dOk d70_6 g70_6 l70_6 = true := by kernel_rfl
def c70 : AC := (.seq (.reg d70_0 g70_0) (.seq (.seq (.reg d70_1 g70_1) (.block 0 (.loop (.seq (.seq (.reg d70_2 g70_2) (.cond (.t 15) .skip (.exit 0))) (.seq (.block 1 (.seq (.reg d70_3 g70_3) (.cond (.t 26) (.seq (.reg d70_4 g70_4) .ret) .skip))) (.reg d70_5 g70_5)))))) (.seq (.reg d70_6 g70_6) .ret)))
def r70 : List RV := [.tmp 4]
theorem cc70 : (Try.f70.body.bind (cCode Try.prog Try.f70.ntmps)) = some c70 := by kernel_rfl
theorem cr70 : cRes Try.prog Try.f70.results.toList = some r70 := by kernel_rfl
theorem ca70 : callable Try.prog 70 = true := by kernel_rfl
def g71_0 : List G := [⟨(some 2), .mv (.c (.bool false)), none⟩]
def d71_0 : Option (List (List Nat)) := none
def l71_0 : List Nat := []
theorem cd71_0 : dOk d71_0 g71_0 l71_0 = true := by kernel_rfl
def g71_1 : List G := [⟨(some 5), .mv (.t 0), none⟩,
  ⟨(some 6), .len (.t 5), none⟩,
  ⟨(some 7), .mv (.c (.int .i64 (0))), none⟩]
def d71_1 : Option (List (List Nat)) := none
def l71_1 : List Nat := []
theorem cd71_1 : dOk d71_1 g71_1 l71_1 = true := by kernel_rfl
def g71_2 : List G := [⟨(some 8), .bin .lss (.t 7) (.t 6), none⟩]
def d71_2 : Option (List (List Nat)) := none
def l71_2 : List Nat := []
theorem cd71_2 : dOk d71_2 g71_2 l71_2 = true := by kernel_rfl
def g71_3 : List G := [⟨(some 9), .mv (.t 7), none⟩,
  ⟨(some 10), .is 1 (.t 5) (.t 7), none⟩,
  ⟨(some 11), .ld none (.t 10), none⟩,
  ⟨(some 3), .mv (.t 9), none⟩,
  ⟨(some 4), .mv (.t 11), none⟩]
def d71_3 : Option (List (List Nat)) := none
def l71_3 : List Nat := []
theorem cd71_3 : dOk d71_3 g71_3 l71_3 = true := by kernel_rfl
def g71_4 : List G := [⟨(some 12), .mv (.t 4), none⟩,
  ⟨(some 13), .call 89 [(.t 12), (.c (.int .i64 (0))), (.c (.int .i64 (5)))], none⟩,
  ⟨(some 14), .un .not (.t 13), none⟩,
  ⟨(some 15), .mv (.t 14), none⟩,
  ⟨(some 16), .mv (.t 3), some (15, false)⟩,
  ⟨(some 17), .bin .gtr (.t 16) (.c (.int .i64 (0))), some (15, false)⟩,
  ⟨(some 18), .mv (.t 17), some (15, false)⟩,
  ⟨(some 19), .mv (.t 0), some (18, true)⟩,
  ⟨(some 20), .mv (.t 3), some (18, true)⟩,
  ⟨(some 21), .bin .sub (.t 20) (.c (.int .i64 (1))), some (18, true)⟩,
  ⟨(some 22), .is 1 (.t 19) (.t 21), some (18, true)⟩,
  ⟨(some 23), .ld none (.t 22), some (18, true)⟩,
  ⟨(some 24), .mv (.t 4), some (18, true)⟩,
  ⟨(some 25), .bin .geq (.t 23) (.t 24), some (18, true)⟩,
  ⟨(some 26), .pick (.t 18) (.t 25) (.c (.bool false)), some (15, false)⟩,
  ⟨(some 27), .pick (.t 15) (.c (.bool true)) (.t 26), none⟩]
def d71_4 : Option (List (List Nat)) := none
def l71_4 : List Nat := []
theorem cd71_4 : dOk d71_4 g71_4 l71_4 = true := by kernel_rfl
def g71_5 : List G := [⟨(some 2), .mv (.c (.bool false)), none⟩]
def d71_5 : Option (List (List Nat)) := none
def l71_5 : List Nat := []
theorem cd71_5 : dOk d71_5 g71_5 l71_5 = true := by kernel_rfl
def g71_6 : List G := [⟨(some 28), .bin .add (.t 7) (.c (.int .i64 (1))), none⟩,
  ⟨(some 7), .mv (.t 28), none⟩]
def d71_6 : Option (List (List Nat)) := none
def l71_6 : List Nat := []
theorem cd71_6 : dOk d71_6 g71_6 l71_6 = true := by kernel_rfl
def g71_7 : List G := [⟨(some 2), .mv (.c (.bool true)), none⟩]
def d71_7 : Option (List (List Nat)) := none
def l71_7 : List Nat := []
theorem cd71_7 : dOk d71_7 g71_7 l71_7 = true := by kernel_rfl
def c71 : AC := (.seq (.reg d71_0 g71_0) (.seq (.seq (.reg d71_1 g71_1) (.block 0 (.loop (.seq (.reg d71_2 g71_2) (.seq (.cond (.t 8) .skip (.exit 0)) (.seq (.block 1 (.seq (.reg d71_3 g71_3) (.seq (.reg d71_4 g71_4) (.cond (.t 27) (.seq (.reg d71_5 g71_5) .ret) .skip)))) (.reg d71_6 g71_6))))))) (.seq (.reg d71_7 g71_7) .ret)))
def r71 : List RV := [.tmp 2]
theorem cc71 : (Try.f71.body.bind (cCode Try.prog Try.f71.ntmps)) = some c71 := by kernel_rfl
theorem cr71 : cRes Try.prog Try.f71.results.toList = some r71 := by kernel_rfl
theorem ca71 : callable Try.prog 71 = true := by kernel_rfl
def g72_0 : List G := [⟨(some 2), .mv (.c (.nils 1)), none⟩]
def d72_0 : Option (List (List Nat)) := none
def l72_0 : List Nat := []
theorem cd72_0 : dOk d72_0 g72_0 l72_0 = true := by kernel_rfl
def g72_1 : List G := [⟨(some 3), .mv (.c (.nils 1)), none⟩]
def d72_1 : Option (List (List Nat)) := none
def l72_1 : List Nat := []
theorem cd72_1 : dOk d72_1 g72_1 l72_1 = true := by kernel_rfl
def g72_2 : List G := [⟨(some 6), .mv (.t 0), none⟩,
  ⟨(some 7), .len (.t 6), none⟩,
  ⟨(some 8), .mv (.c (.int .i64 (0))), none⟩]
def d72_2 : Option (List (List Nat)) := none
def l72_2 : List Nat := []
theorem cd72_2 : dOk d72_2 g72_2 l72_2 = true := by kernel_rfl
def g72_3 : List G := [⟨(some 9), .bin .lss (.t 8) (.t 7), none⟩]
def d72_3 : Option (List (List Nat)) := none
def l72_3 : List Nat := []
theorem cd72_3 : dOk d72_3 g72_3 l72_3 = true := by kernel_rfl
def g72_4 : List G := [⟨(some 10), .is 7 (.t 6) (.t 8), none⟩,
  ⟨(some 11), .ld (some 7) (.t 10), none⟩,
  ⟨(some 5), .alloc (.agg [.int .i64 (0), .agg [.int .i64 (0), .int .i64 (0), .int .i64 (0), .int .i64 (0), .int .i64 (0), .int .i64 (0)]]), none⟩,
  ⟨none, .st (some 7) (.t 5) (.t 11), none⟩]
def d72_4 : Option (List (List Nat)) := none
def l72_4 : List Nat := []
theorem cd72_4 : dOk d72_4 g72_4 l72_4 = true := by kernel_rfl
def g72_5 : List G := [⟨(some 12), .mv (.t 3), none⟩,
  ⟨(some 13), .fa 0 0 (.t 5), none⟩,
  ⟨(some 14), .ld none (.t 13), none⟩,
  ⟨(some 15), .bs 1 [(.t 14)], none⟩,
  ⟨(some 16), .app 3 1 8 (.int .i64 (0)) (.t 12) (.t 15), none⟩,
  ⟨(some 3), .mv (.t 16), none⟩]
def d72_5 : Option (List (List Nat)) := none
def l72_5 : List Nat := []
theorem cd72_5 : dOk d72_5 g72_5 l72_5 = true := by kernel_rfl
def g72_6 : List G := [⟨(some 17), .bin .add (.t 8) (.c (.int .i64 (1))), none⟩,
  ⟨(some 8), .mv (.t 17), none⟩]
def d72_6 : Option (List (List Nat)) := none
def l72_6 : List Nat := []
theorem cd72_6 : dOk d72_6 g72_6 l72_6 = true := by kernel_rfl
def g72_7 : List G := [⟨(some 18), .mv (.t 3), none⟩,
  ⟨(some 2), .mv (.t 18), none⟩]
def d72_7 : Option (List (List Nat)) := none
def l72_7 : List Nat := []
theorem cd72_7 : dOk d72_7 g72_7 l72_7 = true := by kernel_rfl
def c72 : AC := (.seq (.reg d72_0 g72_0) (.seq (.reg d72_1 g72_1) (.seq (.seq (.reg d72_2 g72_2) (.block 0 (.loop (.seq (.reg d72_3 g72_3) (.seq (.cond (.t 9) .skip (.exit 0)) (.seq (.block 1 (.seq (.reg d72_4 g72_4) (.reg d72_5 g72_5))) (.reg d72_6 g72_6))))))) (.seq (.reg d72_7 g72_7) .ret))))
def r72 : List RV := [.tmp 2]
theorem cc72 : (Try.f72.body.bind (cCode Try.prog Try.f72.ntmps)) = some c72 := by kernel_rfl
theorem cr72 : cRes Try.prog Try.f72.results.toList = some r72 := by kernel_rfl
theorem ca72 : callable Try.prog 72 = true := by kernel_rfl
end Go.Proofs.Ytkjkbpgdpnapfaa

