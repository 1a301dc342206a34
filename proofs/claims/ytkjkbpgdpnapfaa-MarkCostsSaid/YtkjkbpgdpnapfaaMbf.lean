/-
  THE ABSTRACT LAYER, 22: the rule of a range over a function, at an outermost loop. Over any program.
-/
import Derived.ProofKit
import Derived.Test.YtkjkbpgdpnapfaaRows
import Derived.Test.YtkjkbpgdpnapfaaMbe
set_option linter.unusedSimpArgs false
set_option linter.unusedVariables false
namespace Go.Abs
open Go Go.RowKit
open Enc (enc)

/-- How a round may leave the loop: by a return, or by an exit of an outer block. -/
def jumpOf : Option Nat → Code
  | none => .ret
  | some id => .exit id
def exitOf : Option Nat → Exit
  | none => .ret
  | some id => .exit id

/-- What comes back at a round's end. -/
def Backs (o : Obj) (A : AState) (os : List (Nat × AO)) : Prop := ∀ n x, lookO (recd o os) n = some x → A.o n = some x ∧ x.only (isIn (recd o os)) = true ∧ x.fix = true

/-- The end of a round. -/
def roundQ (o : Obj) (In : List (Nat × AO) → Prop) (Ix : Option Nat → List (Nat × AO) → Prop) : Exit → AState → Prop
  | .normal, A => ∃ os, Backs o A os ∧ In os
  | .ret, A => ∃ os, Backs o A os ∧ Ix none os
  | .exit id, A => ∃ os, Backs o A os ∧ Ix (some id) os
  | _, _ => False

/-- A round: the loop variables are set, the record is busy, the body is walked. -/
def Round (P : Program) (nn : Nat) (x y : AC) (ps : List Nat) (tsR : List (Nat × AV)) (N : Nat) (item : Nat → List AV) (I : Nat → List (Nat × AO) → Prop) (Ix : Option Nat → List (Nat × AO) → Prop) : Prop :=
  ∀ k osb, k < N → I k osb → ∀ (w : World) (D : Dom) (E : Env) (l : Nat) (o1 o2 : Obj),
    AW ⟨P, w, D, nn, ownE E, E, noY, some l⟩ x (thenQ (fun B => B.o 1999999 = some (.opq o1) ∧ AW ⟨P, w, D, nn, ownE E, E, noY, some l⟩ y (roundQ o2 (I (k + 1)) Ix) (B.setO 1999999 (.opq o2))) (fun _ _ => False)) (mkA (putsT ps (item k) tsR) (recd o1 osb))

section
variable {c : Ctx} {Q : Exit → AState → Prop}

theorem held_backs {o : Obj} {A : AState} {os : List (Nat × AO)} (h : Backs o A os) (o' : Obj) : ∀ n x, lookO (recd o' os) n = some x → (A.setO 1999999 (.opq o')).o n = some x ∧ x.only (isIn (recd o' os)) = true ∧ x.fix = true := fun n x hx => by
  have e : isIn (recd o' os) = isIn (recd o os) := by funext m; rw [isIn_recd, isIn_recd]
  rw [e]
  by_cases hn : n = 1999999
  · subst hn
    rw [lookO_recd, if_pos rfl, Option.some.injEq] at hx
    subst hx
    exact ⟨by simp [AState.setO], rfl, rfl⟩
  · rw [lookO_recd, if_neg hn] at hx
    obtain ⟨h1, h2⟩ := h n x (by rw [lookO_recd, if_neg hn]; exact hx)
    exact ⟨by simp only [AState.setO, if_neg hn]; exact h1, h2⟩

theorem AW.rfun {f : AOpd} {ps : List Nat} {x y : AC} {ts tsR : List (Nat × AV)} {os0 osb0 : List (Nat × AO)} {ρ : List (Nat × Nat)} {g : FuncId} {caps : List AV} {N : Nat} {item : Nat → List AV}
    (I : Nat → List (Nat × AO) → Prop) (Ix : Option Nat → List (Nat × AO) → Prop) (hr : c.rnd = none) (hn6 : c.n ≤ 1000000)
    (hf : ev (mkA ts os0) f = .func g caps) (hcl : AV.closeds caps = true) (hcb : callable c.P g = true) (hit : Iter c.P g caps N item) (hlen : ∀ k, (item k).length = ps.length)
    (hfree : lookO os0 999999 = none) (h19 : isIn osb0 1999999 = false) (hρ : rnm ρ 1999999 = 999999)
    (hgv : ∀ o, Gvn ρ (recd o osb0) ((999999, .opq o) :: os0)) (hts : slotsOk ρ (isIn osb0) ts tsR)
    (hI : ∀ k os, I k os → GoodO osb0 os) (hIx : ∀ e os, Ix e os → GoodO osb0 os) (h0 : I 0 osb0)
    (hround : Round c.P c.n x y ps tsR N item I Ix)
    (hdone : ∀ os, I N os → Q .normal (mkA ts (renO ρ os ++ os0))) (hexit : ∀ e os, Ix e os → Q (exitOf e) (mkA ts (renO ρ os ++ os0))) :
    AW c (.rfun f ps x y) Q (mkA ts os0) := by
  intro code hc a w hs
  cases code <;> simp only [cCode] at hc <;> try (first | (cases hc; done) | ((repeat' split at hc) <;> cases hc; done))
  rename_i cf cps cx cy
  split at hc
  case h_2 => cases hc
  rename_i f' x' y' hcf hcx hcy
  split at hc
  case isFalse => cases hc
  rename_i hpn
  simp only [Option.some.injEq, AC.rfun.injEq] at hc
  obtain ⟨rfl, rfl, rfl, rfl⟩ := hc
  obtain ⟨D, E, hs⟩ := hs
  have hF : c.F = Fence.wide := by unfold Ctx.F; rw [hr]
  have hE0 : c.E0 999999 = none := hs.fresh (.inr (by decide))
  have hval : ∃ vs : List Value, a.eval cf = .func (.func g) #[] vs.toArray ∧ rvs w D E caps vs := by
    have hv := ev_ok hs hcf
    rw [hf] at hv
    obtain ⟨cs, q1, q2⟩ := hv
    simp only [rc] at q2
    obtain ⟨vs, q3, q4⟩ := q2
    exact ⟨vs, by simpa [isPack, AV.isAgg, q3] using q1.symm, q4⟩
  obtain ⟨vs, hval, hvs⟩ := hval
  rw [hF]
  refine wpIn_rangeFunc fun fn hfn => ?_
  obtain ⟨rec, hrec⟩ : ∃ rec : LoopState → Option Code → Loop, rec = fun st pe => { state := st, pending := pe, fn, tmps := a.tmps, params := cps, assign := cx, body := cy, defers := w.heap.size } := ⟨_, rfl⟩
  obtain ⟨E1, hs1, hE1, hup⟩ := hs.enter hfree hE0 (o := .loop (rec .ready none)) rfl
  obtain ⟨W1, hW1⟩ : ∃ W1, (w.alloc (.deferred (some []))).alloc (.loop (rec .ready none)) = W1 := ⟨_, rfl⟩
  rw [hW1] at hs1 hup
  obtain ⟨l, hl⟩ : ∃ l, l = w.heap.size + 1 := ⟨_, rfl⟩
  rw [← hl] at hE1
  obtain ⟨yv, hyv⟩ : ∃ yv : Value, yv = .func (.yield l) #[] #[] := ⟨_, rfl⟩
  obtain ⟨a1, ha1⟩ : ∃ a1 : Act, a1 = { a with defers := { target := .collected w.heap.size, args := #[] } :: a.defers } := ⟨_, rfl⟩
  rw [← ha1] at hs1
  refine ⟨l, [{ target := .collected w.heap.size, args := #[] }], W1, { target := .fn (.func g) vs.toArray, args := #[yv] }, W1, g, #[yv] ++ vs.toArray, W1, ?_, ?_, ?_, ?_, fun _ => by decide, ?_⟩
  · rw [← hW1, hrec, hl]
    exact run_enterLoop_outer _ _ _ _ _
  · simp only [resolve, hval, hyv]
    simp [go_sem]
  · intro f' _; trivial
  · simp only [invoke, run_callFunc hcb]
  · -- the iterator's own bargain
    have hG0 := hI 0 osb0 h0
    obtain ⟨I', hI'⟩ : ∃ I' : Nat → List (Nat × AO) → Prop, I' = fun k os => ∃ osb, os = recd (.loop (rec .ready none)) osb ∧ I k osb := ⟨_, rfl⟩
    obtain ⟨Ix', hIx'⟩ : ∃ Ix' : List (Nat × AO) → Prop, Ix' = fun os => ∃ e osb, os = recd (.loop (rec .done (some (jumpOf e)))) osb ∧ Ix e osb := ⟨_, rfl⟩
    obtain ⟨os1, hos1⟩ : ∃ os1, os1 = recd (.loop (rec .ready none)) osb0 := ⟨_, rfl⟩
    obtain ⟨Y, hY⟩ : ∃ Y : Value → List AV → List (Nat × AO) → Post → Prop, Y = fun v args os post => v = yv ∧ ∃ k, args = item k ∧ k < N ∧ I' k os ∧ ∀ r os2, (r = .bool true ∧ I' (k + 1) os2) ∨ (r = .bool false ∧ Ix' os2) → post r os2 := ⟨_, rfl⟩
    have good : ∀ k os', I' k os' → GoodO os1 os' := fun k os' h => by
      rw [hI'] at h; obtain ⟨osb, rfl, h⟩ := h
      rw [hos1]; exact (hI k osb h).recd _ _
    have goodx : ∀ os', Ix' os' → GoodO os1 os' := fun os' h => by
      rw [hIx'] at h; obtain ⟨e, osb, rfl, h⟩ := h
      rw [hos1]; exact (hIx e osb h).recd _ _
    have hctr := hit Y yv I' Ix' os1 (by rw [hyv]; rfl) (fun k os' post hk h1 h2 => by rw [hY]; exact ⟨rfl, k, rfl, hk, h1, h2⟩) good goodx (by rw [hI']; exact ⟨osb0, hos1, h0⟩)
    have hgv1 : Gvn ρ os1 ((999999, .opq (.loop (rec .ready none))) :: os0) := by rw [hos1]; exact hgv _
    obtain ⟨A0, hA0⟩ : ∃ A0 : AState, A0 = mkA ts ((999999, .opq (.loop (rec .ready none))) :: os0) := ⟨_, rfl⟩
    have hand : Hand (Calls c.P g) (fun w D E => ∀ n, YOk ⟨c.P, w, D, n, ownE E, E, Y, none⟩) (.raw yv :: caps) os1 (fun r os' => r = .tuple [] ∧ (I' N os' ∨ Ix' os')) := fun w D E vs hy hlive hheld hv => by
      refine (hctr.2 w D E vs hy hlive hheld hv).mono fun e w' ⟨v, he, D', E', r, os', q⟩ => ⟨v, D', E', r, os', he, q⟩
    have hshare := hs1.shareAll
    obtain ⟨Dh, hDh⟩ : ∃ Dh, Dh = rowsDom (mkA ts ((999999, .opq (.loop (rec .ready none))) :: os0)) D E1 := ⟨_, rfl⟩
    rw [← hDh] at hshare
    have hsh := hshare.1
    obtain ⟨Eh, hEh⟩ : ∃ Eh, Eh = hE ρ os1 E1 := ⟨_, rfl⟩
    have isrec : isIn os1 1999999 = true := by rw [hos1, isIn_recd]; simp
    have hEl : Eh 1999999 = some (.op l) := by rw [hEh]; simp only [hE, isrec, if_true, hρ]; exact hE1
    have EhIn : ∀ n e, Eh n = some e → isIn os1 n = true := fun n e h => by
      rw [hEh] at h; simp only [hE] at h; split at h
      · assumption
      · cases h
    have hyok : ∀ n, YOk ⟨c.P, W1, Dh, n, ownE Eh, Eh, Y, none⟩ := by
      intro n v' args os' post' hYv w2 D2 E2 vs2 hsince hlive hheld hrvs
      rw [hY] at hYv
      obtain ⟨rfl, k, rfl, hkN, hIk, hpost⟩ := hYv
      have hIk0 := hIk
      rw [hI'] at hIk
      obtain ⟨osb, rfl, hIk⟩ := hIk
      have gk := good k _ hIk0
      have gkb := hI k osb hIk
      have in2 : ∀ m, isIn os1 m = true → E2 m ≠ none := fun m hm => by
        rw [← gk.same m] at hm
        cases hx : lookO (recd (.loop (rec .ready none)) osb) m with
        | none => simp [isIn, hx] at hm
        | some x => have := hheld.obj m; rw [hx] at this; exact objOk_some this
      have same2 : ∀ m e, Eh m = some e → e.fix = true → E2 m = some e := fun m e he hfx => by
        rcases hsince.hist m e he hfx with h | h
        · exact absurd h (in2 m (EhIn m e he))
        · exact h
      have hEl2 : E2 1999999 = some (.op l) := same2 _ _ hEl rfl
      have hob := hheld.obj 1999999
      rw [lookO_recd, if_pos rfl] at hob
      obtain ⟨b, j1, _, j3, _, _⟩ := hob
      rw [hEl2] at j1
      cases j1
      have hsz : vs2.toArray.size = cps.size := by have := rvs_length hrvs; rw [hlen] at this; simpa using this
      have hyr := run_yield (P := c.P) (args := vs2.toArray) j3 (by rw [hrec]; exact hsz)
      rw [hrec] at hyr
      refine ⟨l, hyv, fn, _, cx, cy, hyr, roundIn_of_wpIn trivial ?_⟩
      clear hyr
      -- the round's own frame
      obtain ⟨cr, hcr⟩ : ∃ cr : Ctx, cr = ⟨c.P, w2, D2, c.n, ownE E2, E2, noY, some l⟩ := ⟨_, rfl⟩
      have hFr : cr.F = Fence.wide.inRound l := by rw [hcr]; rfl
      have fixEh : ∀ m e, Eh m = some e → e.fix = true := fun m e he => by
        obtain ⟨x, e', b, _, q2, _, _, q5, _⟩ := hsh.given hgv1 (EhIn m e he)
        rw [hEh] at he; rw [he] at q2; cases q2; exact q5
      have hlat : Later W1 Dh Eh w2 D2 E2 := by
        refine ⟨hsince.up, fun b o v hd hv => ?_, fun m b sh he => same2 m _ he rfl, fun m blk l he => ?_⟩
        · have hblk : w2.heap[b]? = W1.heap[b]? := hsince.unch.block b fun hm => by
            rcases hm with hm | hm
            · exact absurd (hsh.live b o hd) (Nat.not_lt.2 hm)
            · simp only at hm
              rw [hEh] at hm
              obtain ⟨m, e, _, _, _, _, _, h5, _⟩ := hsh.given_own hgv1 hm
              exact h5 o hd
          rw [World.cell?_of_block hblk]; exact hv
        · exact absurd (fixEh m _ he) (by simp [Ent.fix])
      have hslots : slotsOk ρ (isIn os1) ts tsR := by
        have : ∀ tsR : List (Nat × AV), slotsOk ρ (isIn osb0) ts tsR → slotsOk ρ (isIn os1) ts tsR := by
          intro tsR
          induction tsR with
          | nil => exact fun h => h
          | cons q r ih =>
            intro h
            obtain ⟨h1, h2, h3⟩ := h
            exact ⟨h1, only_mono (fun n hn => by rw [hos1, isIn_recd, hn]; simp) _ h2, ih h3⟩
        exact this tsR hts
      have hsr : SimW cr (mkA tsR (recd (.loop (rec .ready none)) osb)) { tmps := a.tmps, defers := [] } w2 D2 E2 := by
        rw [hcr]
        refine ⟨hs.sz, ⟨[], rfl, .nil, fun _ h => by simp at h⟩, fun t => ?_, Kept.refl _ _, fun _ _ h _ => h, hlive, fun m => (hheld.obj m).mine fun e b he hb => .inr ⟨m, e, he, hb⟩, hheld.sep, fun _ _ h _ => .inr h, fun m hm => ?_, fun _ _ h => h, fun _ _ _ _ h => h.elim⟩
        · rcases slotsOk_get hslots t with h | ⟨h1, h2⟩
          · simp only [mkA]; rw [h]; simp [rv]
          · have h3 := hsh.tm t
            rw [ha1] at h3
            simp only [mkA] at h3 ⊢
            rw [h1] at h3
            have h4 := (rv.ren (w := W1) (D := Dh) (p := isIn os1) (ρ := rnm ρ) (E := Eh) (E' := E1) (fun n hn => by rw [hEh]; simp only [hE, hn, if_true]) h2).1 h3
            exact rv.later hlat h4
        · have hmi : isIn os1 m = true := by
            rw [← gk.same m]
            have := hheld.obj m
            cases hx : lookO (recd (.loop (rec .ready none)) osb) m with
            | none => rw [hx] at this; exact absurd this hm
            | some x => simp [isIn, hx]
          have := gk.great m hmi
          exact ⟨Nat.le_trans hn6 this, this⟩
      have hsp := SimW.puts cps.toList vs2 (item k) tsR _ hsr (fun p hp => by rw [hcr]; have := List.all_eq_true.1 hpn p hp; simpa using this) hrvs (by have := hsz; simpa using this.symm)
      have htm : (cps.zip vs2.toArray).foldl (fun t (q : Tmp × Value) => t.setIfInBounds q.1 q.2) a.tmps = (cps.toList.zip vs2).foldl (fun t q => t.setIfInBounds q.1 q.2) a.tmps := by
        rw [← Array.foldl_toList]; simp
      have hx := hround k osb hkN hIk w2 D2 E2 l (.loop (rec .ready none)) (.loop { rec .ready none with state := .busy }) 
      rw [← hcr] at hx
      have hx1 := hx cx (by rw [hcr]; exact hcx) _ w2 ⟨D2, E2, hsp⟩
      rw [hFr] at hx1
      simp only [← htm] at hx1
      rw [hcr] at hx1
      refine wpIn_mono hx1 ?_
      rintro e ax wx ⟨B, hq, hsx⟩
      rw [← hcr] at hq hsx
      cases e <;> simp only [thenQ] at hq <;> try exact hq.elim
      simp only [Exit.then]
      obtain ⟨hB1, hB2⟩ := hq
      obtain ⟨Dx, Ex, hsx⟩ := hsx
      have hElx : Ex 1999999 = some (.op l) := by
        have ho := hsx.obj 1999999
        rw [hB1] at ho
        rcases hsx.hist 1999999 _ (by rw [hcr]; exact hEl2) rfl with h | h
        · exact absurd h (objOk_some ho)
        · exact h
      have hLx : wx.heap[l]? = some (.loop (rec .ready none)) := by
        have ho := hsx.obj 1999999
        rw [hB1] at ho
        obtain ⟨b, k1, _, k3, _⟩ := ho
        rw [hElx] at k1; cases k1; exact k3
      refine ⟨_, run_beginRound hLx (by rw [hrec]), ?_⟩
      have hsb := hsx.setOpq (o' := .loop { rec .ready none with state := .busy }) hB1 hElx rfl
      have hy1 := hB2 cy (by rw [hcr]; exact hcy) _ _ ⟨Dx, Ex, hsb⟩
      rw [hFr] at hy1
      rw [hcr] at hy1
      refine wpIn_mono hy1 ?_
      rintro e a3 w3 ⟨A3, hq3, D3, E3, hs3⟩
      rw [← hcr] at hs3
      -- the end of the round
      have fin : ∀ (os : List (Nat × AO)) (jump : Option Code), Backs (.loop { rec .ready none with state := .busy }) A3 os → (post' (.bool jump.isNone) (recd (.loop (rec (if jump.isNone then .ready else .done) jump)) os)) →
          ∃ v w', (Instr.endRound l jump).run c.P w3 = .ok v w' ∧ (fun e w' => ∃ v D' E' r os', e = Ending.returned v ∧ post' r os' ∧ rv w' D' E' r v ∧ HeldO (fun b => w2.heap.size ≤ b ∨ ownE E2 b) w' D' E' (lookO os') ∧
            Kept (fun b => w2.heap.size ≤ b ∨ ownE E2 b) w2 w' ∧ (∀ b o, D2 b o → D' b o) ∧ (∀ b o, D' b o → b < w'.heap.size) ∧ (∀ b o, D' b o → b < w2.heap.size → ¬ ownE E2 b → D2 b o) ∧
            ∀ n e, E2 n = some e → e.fix = true → isIn os' n = true → E' n = some e) (.returned v) w' := fun os jump hbk hp => by
        have hA3 : A3.o 1999999 = some (.opq (.loop { rec .ready none with state := .busy })) := (hbk 1999999 _ (by rw [lookO_recd, if_pos rfl])).1
        have hEl3 : E3 1999999 = some (.op l) := by
          have ho := hs3.obj 1999999
          rw [hA3] at ho
          rcases hs3.hist 1999999 _ (by rw [hcr]; exact hEl2) rfl with h | h
          · exact absurd h (objOk_some ho)
          · exact h
        have hL3 : w3.heap[l]? = some (.loop { rec .ready none with state := .busy }) := by
          have ho := hs3.obj 1999999
          rw [hA3] at ho
          obtain ⟨b, k1, _, k3, _⟩ := ho
          rw [hEl3] at k1; cases k1; exact k3
        have hend := run_endRound (P := c.P) jump hL3
        have erec : ({ rec .ready none with state := if jump.isNone then LoopState.ready else .done, pending := jump } : Loop) = rec (if jump.isNone then .ready else .done) jump := by rw [hrec]
        have hend' : (Instr.endRound l jump).run c.P w3 = .ok (.bool jump.isNone) (w3.putObj l (.loop (rec (if jump.isNone then .ready else .done) jump))) := by
          rw [hend]; rw [hrec]
        have hs4 := hs3.setOpq (o' := .loop (rec (if jump.isNone then .ready else .done) jump)) hA3 hEl3 rfl
        rw [hcr] at hs4
        obtain ⟨D', E', _, _, _, q1, q2, q3, q4, q5, q6⟩ := hs4.leave0 (held_backs hbk _)
        exact ⟨_, _, hend', _, D', E', .bool jump.isNone, _, rfl, hp, ⟨[.bool jump.isNone], by simp [isPack, AV.isAgg], by simp [rc]⟩, q1, q2, q3, q4, q5, q6⟩
      cases e with
      | normal =>
        obtain ⟨os, hbk, hin⟩ := hq3
        exact fin os none hbk (hpost _ _ (.inl ⟨rfl, by rw [hI']; exact ⟨os, rfl, hin⟩⟩))
      | ret =>
        obtain ⟨os, hbk, hin⟩ := hq3
        exact fin os (some .ret) hbk (hpost _ _ (.inr ⟨rfl, by rw [hIx']; exact ⟨none, os, rfl, hin⟩⟩))
      | exit id =>
        obtain ⟨os, hbk, hin⟩ := hq3
        exact fin os (some (.exit id)) hbk (hpost _ _ (.inr ⟨rfl, by rw [hIx']; exact ⟨some id, os, rfl, hin⟩⟩))
      | goto t => exact hq3.elim
      | panic ch => exact hq3.elim
      | outgrown => exact hq3.elim
    -- the call
    have hargs : All2 (rv W1 D E1) (.raw yv :: caps) (yv :: vs) := by
      exact .cons ⟨[yv], by simp [isPack, AV.isAgg], by rw [hyv]; exact ⟨rfl, rfl⟩⟩ (rvs_all2 (hup caps vs hvs))
    have hus := hand.use (ρ := ρ) hs1 false (fun h => h.mono) ⟨(fun h => by cases h), fun _ => by rw [← hDh, ← hEh]; exact hyok⟩ hgv1 (argsOk_closed _ (by simp [AV.closeds, AV.closed, hcl]))
      (fun r os' hp => by
        have gg : GoodO os1 os' := by
          rcases hp.2 with h | h
          · exact good _ _ h
          · exact goodx _ h
        refine ⟨fun m x hx => ⟨(gg.ok m x hx).1, (gg.ok m x hx).2, fun h => by cases h⟩, fun m m' h1 h2 => hgv1.inj m m' (by rw [← gg.same]; exact h1) (by rw [← gg.same]; exact h2), fun m hm => by rw [gg.same]; exact hm, fun m h1 h2 => (by rw [gg.same, h2] at h1; cases h1), (by rw [hp.1]; simp [AV.only, AV.onlys]), fun h => by cases h⟩) hargs
    have ecl : #[yv] ++ vs.toArray = (yv :: vs).toArray := by simp
    rw [ecl]
    refine CallsIn.mono (callsIn_wide.2 hus) ?_
    rintro e w3 ⟨v, r, os', D2, E2, rfl, hp, hs2, _, hE2⟩
    have key : ∀ (o3 : Obj) (osb : List (Nat × AO)), os' = recd o3 osb → isRec o3 = true → E2 999999 = some (.op l) ∧ w3.heap[l]? = some o3 ∧ ∀ o4, isRec o4 = true → Sim c (mkA ts (renO ρ osb ++ os0)) a1 (w3.putObj l o4) := fun o3 osb he h3 => by
      subst he
      have hn2 : E2 999999 = some (.op l) := by
        have := hE2 1999999 (.op l) (by rw [← hEh]; exact hEl) rfl (by rw [isIn_recd]; simp)
        rwa [hρ] at this
      have eos : renO ρ (recd o3 osb) = (999999, .opq o3) :: renO ρ osb := by simp only [recd, renO, List.map_cons, hρ, AO.ren]
      rw [eos] at hs2
      have ha : (mkA ts ((999999, AO.opq o3) :: renO ρ osb ++ (999999, .opq (.loop (rec .ready none))) :: os0)).o 999999 = some (.opq o3) := by simp [mkA, lookO]
      have hgb : ∀ m, isIn osb m = true → rnm ρ m ≠ 999999 := fun m hm e => by
        have h5 : isIn (recd o3 osb) m = true := by rw [isIn_recd, hm]; simp
        have g5 : GoodO os1 (recd o3 osb) := by
          rcases hp.2 with h | h
          · exact good _ _ h
          · exact goodx _ h
        have h6 := hgv1.inj m 1999999 (by rw [← g5.same]; exact h5) isrec (by rw [hρ]; exact e)
        subst h6
        have h7 : GoodO osb0 osb := by
          rcases hp.2 with h | h
          · rw [hI'] at h; obtain ⟨osb', h8, h9⟩ := h
            simp only [recd, List.cons.injEq] at h8
            rw [h8.2]; exact hI _ _ h9
          · rw [hIx'] at h; obtain ⟨e, osb', h8, h9⟩ := h
            simp only [recd, List.cons.injEq] at h8
            rw [h8.2]; exact hIx _ _ h9
        rw [h7.same, h19] at hm; cases hm
      refine ⟨hn2, ?_, fun o4 h4 => ?_⟩
      · have ho := hs2.obj 999999
        rw [ha] at ho
        obtain ⟨b, k1, _, k3, _⟩ := ho
        rw [hn2] at k1; cases k1; exact k3
      · have h5 := (hs2.setOpq (o' := o4) ha hn2 h4).dropOpq hn2
        have hst : (⟨((mkA ts ((999999, AO.opq o3) :: renO ρ osb ++ (999999, .opq (.loop (rec .ready none))) :: os0)).setO 999999 (.opq o4)).t, fun m => if m = 999999 then none else
            ((mkA ts ((999999, AO.opq o3) :: renO ρ osb ++ (999999, .opq (.loop (rec .ready none))) :: os0)).setO 999999 (.opq o4)).o m⟩ : AState) = mkA ts (renO ρ osb ++ os0) := by
          simp only [mkA, AState.setO]
          congr 1
          funext m
          by_cases hm : m = 999999
          · subst hm
            simp only [if_true, lookO_renO]
            cases hq : pre ρ osb 999999 with
            | none => exact hfree.symm
            | some k => exact absurd (pre_some hq).2 (hgb k (pre_some hq).1)
          · simp only [if_neg hm, List.cons_append, lookO, lookO_renO]
        rw [hst] at h5
        exact ⟨D2, _, h5⟩
    rcases hp.2 with h | h
    · rw [hI'] at h
      obtain ⟨osb, he, hin⟩ := h
      obtain ⟨k1, k2, k3⟩ := key _ osb he rfl
      refine ⟨none, _, (by have := run_endLoop (P := c.P) k2 (by rw [hrec]; simp); rw [hrec] at this; exact this), _, hdone osb hin, ?_⟩
      have := k3 (.loop { rec .ready none with state := .exhausted }) rfl
      rw [ha1] at this
      rw [hrec] at this
      exact this
    · rw [hIx'] at h
      obtain ⟨e, osb, he, hin⟩ := h
      obtain ⟨k1, k2, k3⟩ := key _ osb he rfl
      refine ⟨some (jumpOf e), _, (by have := run_endLoop (P := c.P) k2 (by rw [hrec]; simp); rw [hrec] at this; exact this), ?_⟩
      have := k3 (.loop { rec .done (some (jumpOf e)) with state := .exhausted }) rfl
      rw [ha1] at this
      rw [hrec] at this
      have hq : liftQ c Q (exitOf e) { a with defers := { target := .collected w.heap.size, args := #[] } :: a.defers } _ := ⟨_, hexit e osb hin, this⟩
      cases e with
      | none => exact wpIn_ret hq
      | some id => exact wpIn_exit hq

end
end Go.Abs

/-
  THE ABSTRACT LAYER, 23: lemmas for iterators: what a call of yield leaves of the iterator's own state. Over any program.
-/
namespace Go.Abs
open Go Go.RowKit
open Enc (enc)

mutual
theorem ren_id {ρ : Nat → Nat} (h : ∀ n, ρ n = n) : ∀ x : AV, x.ren ρ = x
  | .agg fs | .tuple fs => by simp only [AV.ren]; rw [rens_id h fs]
  | .slice _ es => by simp only [AV.ren]; rw [rens_id h es]
  | .ref x => by simp only [AV.ren]; rw [ren_id h x]
  | .func _ caps => by simp only [AV.ren]; rw [rens_id h caps]
  | .iface _ v => by simp only [AV.ren]; rw [ren_id h v]
  | .ptr _ _ | .own _ _ | .view _ _ _ _ _ => by simp only [AV.ren, h]
  | .bool _ | .int _ _ | .str _ | .nilp | .nilf | .nili | .raw _ | .nils _ | .c0 _ | .undef | .top => by simp only [AV.ren]
theorem rens_id {ρ : Nat → Nat} (h : ∀ n, ρ n = n) : ∀ xs : List AV, AV.rens ρ xs = xs
  | [] => rfl
  | x :: xs => by simp only [AV.rens]; rw [ren_id h x, rens_id h xs]
end
theorem AO.ren_id {ρ : Nat → Nat} (h : ∀ n, ρ n = n) : ∀ x : AO, x.ren ρ = x
  | .box x => by simp only [AO.ren, Abs.ren_id h]
  | .row _ _ es => by simp only [AO.ren, rens_id h]
  | .opq _ => rfl
theorem renO_id (os : List (Nat × AO)) : renO [] os = os := by
  simp only [renO]
  have : (fun q : Nat × AO => (rnm [] q.1, q.2.ren (rnm []))) = id := by
    funext q
    rw [AO.ren_id (ρ := rnm []) (fun n => rfl)]; rfl
  rw [this, List.map_id]

theorem lookO_app (a b : List (Nat × AO)) (n : Nat) : lookO (a ++ b) n = match lookO a n with
    | some x => some x
    | none => lookO b n := by
  induction a with
  | nil => rfl
  | cons q a ih =>
    obtain ⟨k, v⟩ := q
    simp only [List.cons_append, lookO]
    split
    · rfl
    · exact ih

theorem GoodO.none {os os' : List (Nat × AO)} (h : GoodO os os') {n : Nat} (hn : n < 1000000) : lookO os' n = none := by
  cases hx : lookO os' n with
  | none => rfl
  | some x =>
    have h1 : isIn os' n = true := by simp [isIn, hx]
    rw [h.same] at h1
    exact absurd (h.great n h1) (by omega)

/-- Slots left out; objects in another order. -/
theorem Sub.slots {ts ts' : List (Nat × AV)} {os os' : List (Nat × AO)} (h1 : subT ts ts') (h2 : ∀ n, lookO os n = lookO os' n) : Sub (mkA ts os) (mkA ts' os') := by
  have e : mkA ts os = mkA ts os' := by
    simp only [mkA]; congr 1; funext n; exact h2 n
  rw [e]
  rintro c a w ⟨D, E, hs⟩
  refine ⟨D, E, hs.sz, hs.defs, fun t => ?_, hs.unch, hs.dom, hs.live, hs.obj, hs.sep, hs.hist, hs.nam, hs.up, hs.yok⟩
  rcases subT_get h1 t with h | h
  · simp only [mkA]; rw [h]; simp [rv]
  · have := hs.tm t
    simp only [mkA] at *
    rw [h]; exact this

/-- The iterator's own objects stay, the others are as the round has left them. -/
theorem back_eq {os osk os2 ow : List (Nat × AO)} {ts : List (Nat × AV)} (h1 : GoodO os osk) (h2 : GoodO os os2) (how : ∀ m, isIn ow m = true → m < 1000000) : mkA ts (renO [] os2 ++ (ow ++ osk)) = mkA ts (ow ++ os2) := by
  simp only [mkA, renO_id]
  congr 1
  funext n
  simp only [lookO_app]
  cases hw : lookO ow n with
  | none =>
    simp only
    cases h3 : lookO os2 n with
    | some x => rfl
    | none =>
      simp only
      cases h4 : lookO osk n with
      | none => rfl
      | some x =>
        have h5 : isIn osk n = true := by simp [isIn, h4]
        rw [h1.same, ← h2.same] at h5
        simp [isIn, h3] at h5
  | some x =>
    simp only
    rw [h2.none (how n (by simp [isIn, hw]))]

theorem Gvn.good {os osk ow : List (Nat × AO)} (h1 : GoodO os osk) (how : ∀ m, isIn ow m = true → m < 1000000) : Gvn [] osk (ow ++ osk) := by
  refine ⟨fun m x hx => ?_, fun m m' _ _ h => h⟩
  have hm : isIn osk m = true := by simp [isIn, hx]
  have hg := h1.great m (by rw [← h1.same]; exact hm)
  obtain ⟨k1, k2⟩ := h1.ok m x hx
  refine ⟨?_, k1, k2⟩
  rw [AO.ren_id (ρ := rnm []) (fun n => rfl)]
  simp only [rnm, lookO_app]
  cases hw : lookO ow m with
  | none => exact hx
  | some y => have := how m (by simp [isIn, hw]); omega

theorem Bck.good {os osk os2 os0 : List (Nat × AO)} {r : AV} (h1 : GoodO os osk) (h2 : GoodO os os2) (hr : r.closed = true) : Bck false [] osk os0 r os2 := by
  refine ⟨fun m x hx => ⟨(h2.ok m x hx).1, (h2.ok m x hx).2, fun h => by cases h⟩, fun m m' _ _ h => h, fun m hm => by rw [h2.same, ← h1.same]; exact hm, fun m h3 h4 => ?_, only_closed _ r hr, fun h => by cases h⟩
  rw [h2.same, ← h1.same, h4] at h3; cases h3

/-- A call of yield, by an iterator with objects of its own. -/
theorem WP.yields {P : Program} {Y : Value → List AV → List (Nat × AO) → Post → Prop} {K : AState → Prop} {v : Value} {vs : List AV} {dst : Option Nat} {rest : List G} {ts : List (Nat × AV)} {os osk ow : List (Nat × AO)} {In Ix : List (Nat × AO) → Prop}
    (hY : Y v vs osk (fun r os2 => (r = .bool true ∧ In os2) ∨ (r = .bool false ∧ Ix os2))) (hk : GoodO os osk) (hi : ∀ os', In os' → GoodO os os') (hx : ∀ os', Ix os' → GoodO os os') (hcl : AV.closeds vs = true) (how : ∀ m, isIn ow m = true → m < 1000000)
    (h1 : ∀ os2, In os2 → WP P Y false K (aops rest ((mkA ts (ow ++ os2)).putO dst (.bool true)))) (h2 : ∀ os2, Ix os2 → WP P Y false K (aops rest ((mkA ts (ow ++ os2)).putO dst (.bool false)))) :
    WP P Y false K (.callr v vs dst rest (mkA ts (ow ++ osk))) := by
  refine .yld osk vs _ rfl hY (Gvn.good hk how) (argsOk_closed vs hcl) ?_ ?_
  · rintro r os' (⟨rfl, h⟩ | ⟨rfl, h⟩)
    · exact Bck.good hk (hi _ h) rfl
    · exact Bck.good hk (hx _ h) rfl
  · rintro r os' (⟨rfl, h⟩ | ⟨rfl, h⟩)
    · rw [back_eq hk (hi _ h) how]; exact h1 os' h
    · rw [back_eq hk (hx _ h) how]; exact h2 os' h

theorem callvR_raw (A : AState) (d : Option Nat) (args : List AV) (rest : List G) (v : Value) : callvR A d args rest (.raw v) = .callr v args d rest A := rfl

end Go.Abs

/-
  FUNCTIONS OF mark BY CONTRACT: the iterator marks.
-/
namespace Go.Proofs.Ytkjkbpgdpnapfaa
open Go Go.Abs
open Go.Abs.Enc (enc)

/-- The digits of a number in base five, six places. -/
def dg (k : Nat) : Nat → Int
  | 0 => ((k / 5 / 5 / 5 / 5 / 5 % 5 : Nat) : Int)
  | 1 => ((k / 5 / 5 / 5 / 5 % 5 : Nat) : Int)
  | 2 => ((k / 5 / 5 / 5 % 5 : Nat) : Int)
  | 3 => ((k / 5 / 5 % 5 : Nat) : Int)
  | 4 => ((k / 5 % 5 : Nat) : Int)
  | 5 => ((k % 5 : Nat) : Int)
  | _ => 0
def dgs (k : Nat) : Arr 6 Int := ⟨[dg k 0, dg k 1, dg k 2, dg k 3, dg k 4, dg k 5], rfl⟩
/-- The places behind i are nought. -/
def carry (k : Nat) : Nat → Arr 6 Int
  | 0 => ⟨[dg k 0, 0, 0, 0, 0, 0], rfl⟩
  | 1 => ⟨[dg k 0, dg k 1, 0, 0, 0, 0], rfl⟩
  | 2 => ⟨[dg k 0, dg k 1, dg k 2, 0, 0, 0], rfl⟩
  | 3 => ⟨[dg k 0, dg k 1, dg k 2, dg k 3, 0, 0], rfl⟩
  | 4 => ⟨[dg k 0, dg k 1, dg k 2, dg k 3, dg k 4, 0], rfl⟩
  | _ => dgs k
def fours : Arr 6 Int := ⟨[4, 4, 4, 4, 4, 4], rfl⟩
def upto : Nat → Arr 6 Int
  | 0 => zero6
  | i + 1 => upd (upto i) i 4
theorem upto6 : upto 6 = fours := rfl
theorem dgs0 : dgs 0 = zero6 := rfl
theorem dg_in (k i : Nat) : 0 ≤ dg k i ∧ dg k i ≤ 4 := by
  unfold dg; split <;> omega

theorem carry_g (k : Nat) : ∀ i, i < 6 → (carry k i).g i = dg k i
  | 0, _ | 1, _ | 2, _ | 3, _ | 4, _ | 5, _ => rfl
  | n + 6, h => absurd h (by omega)
theorem carry_down (k : Nat) : ∀ i, i + 1 < 6 → upd (carry k (i + 1)) (i + 1) 0 = carry k i
  | 0, _ | 1, _ | 2, _ | 3, _ | 4, _ => rfl
  | n + 5, h => absurd h (by omega)
theorem arr_ext {n : Nat} {x y : Arr n Int} (h : x.l = y.l) : x = y := by
  cases x; cases y; simp only at h; subst h; rfl
theorem carry_up (k : Nat) (hk : k < 15625) : ∀ i, i < 6 → (∀ j, i < j → j < 6 → dg k j = 4) → dg k i ≠ 4 → upd (carry k i) i (dg k i + 1) = dgs (k + 1)
  | 0, _, hj, hi => by
    have h1 := hj 1 (by decide) (by decide); have h2 := hj 2 (by decide) (by decide); have h3 := hj 3 (by decide) (by decide); have h4 := hj 4 (by decide) (by decide); have h5 := hj 5 (by decide) (by decide)
    refine arr_ext ?_
    simp only [upd, carry, dgs, dg, List.set_cons_zero, List.set_cons_succ] at *
    simp only [List.cons.injEq, and_true]
    omega
  | 1, _, hj, hi => by
    have h2 := hj 2 (by decide) (by decide); have h3 := hj 3 (by decide) (by decide); have h4 := hj 4 (by decide) (by decide); have h5 := hj 5 (by decide) (by decide)
    refine arr_ext ?_
    simp only [upd, carry, dgs, dg, List.set_cons_zero, List.set_cons_succ] at *
    simp only [List.cons.injEq, and_true]
    omega
  | 2, _, hj, hi => by
    have h3 := hj 3 (by decide) (by decide); have h4 := hj 4 (by decide) (by decide); have h5 := hj 5 (by decide) (by decide)
    refine arr_ext ?_
    simp only [upd, carry, dgs, dg, List.set_cons_zero, List.set_cons_succ] at *
    simp only [List.cons.injEq, and_true]
    omega
  | 3, _, hj, hi => by
    have h4 := hj 4 (by decide) (by decide); have h5 := hj 5 (by decide) (by decide)
    refine arr_ext ?_
    simp only [upd, carry, dgs, dg, List.set_cons_zero, List.set_cons_succ] at *
    simp only [List.cons.injEq, and_true]
    omega
  | 4, _, hj, hi => by
    have h5 := hj 5 (by decide) (by decide)
    refine arr_ext ?_
    simp only [upd, carry, dgs, dg, List.set_cons_zero, List.set_cons_succ] at *
    simp only [List.cons.injEq, and_true]
    omega
  | 5, _, hj, hi => by
    refine arr_ext ?_
    simp only [upd, carry, dgs, dg, List.set_cons_zero, List.set_cons_succ] at *
    simp only [List.cons.injEq, and_true]
    omega
  | n + 6, h, _, _ => absurd h (by omega)
theorem dgs_fours (k : Nat) (hk : k < 15625) : (dgs k).l = fours.l ↔ k = 15624 := by
  simp only [dgs, dg, fours, List.cons.injEq, and_true]
  omega
theorem dg_fours (k : Nat) (hk : k < 15625) (h : ∀ j, j < 6 → dg k j = 4) : k = 15624 := by
  have h0 := h 0 (by decide); have h1 := h 1 (by decide); have h2 := h 2 (by decide); have h3 := h 3 (by decide); have h4 := h 4 (by decide); have h5 := h 5 (by decide)
  simp only [dg] at *
  omega

end Go.Proofs.Ytkjkbpgdpnapfaa

/-
  FUNCTIONS OF mark BY CONTRACT: the iterator marks, its walk.
-/
namespace Go.Proofs.Ytkjkbpgdpnapfaa
open Go Go.Abs
open Go.Abs.Enc (enc)

theorem own23 {a b : AO} : ∀ m, isIn [(2, a), (3, b)] m = true → m < 1000000 := fun m h => by
  simp only [isIn, lookO] at h
  split at h
  · omega
  · split at h
    · omega
    · simp at h

theorem heldG {os os2 ow : List (Nat × AO)} {ts : List (Nat × AV)} (h : GoodO os os2) (how : ∀ m, isIn ow m = true → m < 1000000) : ∀ n x, lookO os2 n = some x → (mkA ts (ow ++ os2)).o n = some x ∧ x.only (isIn os2) = true ∧ x.fix = true := fun n x hx => by
  have hn : isIn os2 n = true := by simp [isIn, hx]
  have hg := h.great n (by rw [← h.same]; exact hn)
  refine ⟨?_, h.ok n x hx⟩
  simp only [mkA, lookO_app]
  cases hw : lookO ow n with
  | none => exact hx
  | some y => have := how n (by simp [isIn, hw]); omega

theorem F121 : Iter Try.prog 121 [] 15625 (fun k => [enc (dgs k)]) := by
  intro Y v I Ix os hv hY hI hIx h0
  have hG := hI 0 os h0
  refine CtrY.mk' Try.func121 ca121 cc121 cr121 (Nat.le_of_ble_eq_true rfl) (Nat.le_of_ble_eq_true rfl) hG.great (fun hwf W0 D0 E1 => ?_)
  simp only [c121, r121, idx, Nat.zero_add, Nat.reduceAdd]
  have n2 := hG.none (n := 2) (by decide)
  have n3 := hG.none (n := 3) (by decide)
  refine AW.seq (AW.reg cd121_0 fun K hK => ?_)
  simp only [g121_0, bR, Nat.reduceEqDiff, reduceIte, Int.reduceBNe, Int.reduceBEq]
  simp only [n2, n3, e_zero6, bR, Nat.reduceEqDiff, reduceIte, Int.reduceBNe, Int.reduceBEq]
  refine .done (hK _ ?_); clear hK K; simp only [thenQ, blockQ]
  refine AW.seq ?_
  refine AW.seq (AW.reg cd121_1 fun K hK => ?_)
  simp only [g121_1, bR, Nat.reduceEqDiff, reduceIte, Int.reduceBNe, Int.reduceBEq]
  refine .done (hK _ ?_); clear hK K; simp only [thenQ, blockQ]
  refine AW.block (AW.loop (fun i : Nat => mkA [(0, .raw v), (2, .ptr 2 []), (3, .ptr 3 []), (6, .int .i64 i)] ((2, .box (enc zero6)) :: (3, .box (enc (upto i))) :: os)) (fun i => i ≤ 6) (fun i => 6 - i) 0 (by omega) ?_ (fun i hi => ?_))
  · refine Sub.slots ?_ (fun n => ?_)
    · simp [subT, look_cons]
    · simp only [lookO_cons, upto]; (repeat' split) <;> simp_all
  refine AW.seq (AW.reg cd121_2 fun K hK => ?_)
  simp only [g121_2, bR, Nat.reduceEqDiff, reduceIte, Int.reduceBNe, Int.reduceBEq]
  refine .done (hK _ ?_); clear hK K; simp only [thenQ, blockQ]
  refine AW.seq ?_
  refine AW.ite ?_
  simp only [condQ, bR, Nat.reduceEqDiff, reduceIte, Int.reduceBNe, Int.reduceBEq]
  refine ⟨fun h => ?_, fun h => ?_⟩
  · have hlt : i < 6 := by simp at h; omega
    refine AW.skip ?_; simp only [thenQ, blockQ, reduceIte, Nat.reduceEqDiff]
    refine AW.seq (AW.block ?_)
    refine AW.seq (AW.reg cd121_3 fun K hK => ?_)
    simp only [g121_3, bR, Nat.reduceEqDiff, reduceIte, Int.reduceBNe, Int.reduceBEq]
    refine .done (hK _ ?_); clear hK K; simp only [thenQ, blockQ]
    refine AW.reg cd121_4 fun K hK => ?_
    simp only [g121_4, bR, Nat.reduceEqDiff, reduceIte, Int.reduceBNe, Int.reduceBEq]
    simp only [typR, useR, okR, inB_int 1 (upto i) (show (0 : Int) ≤ i ∧ (i : Int) < (6 : Nat) by omega) rfl, atL_g (upto i) hlt, stR3_g (upto i) hlt, bR, Nat.reduceEqDiff, reduceIte, Int.reduceBNe, Int.reduceBEq]
    refine .done (hK _ ?_); clear hK K; simp only [thenQ, blockQ]
    refine AW.reg cd121_5 fun K hK => ?_
    simp only [g121_5, bR, Nat.reduceEqDiff, reduceIte, Int.reduceBNe, Int.reduceBEq]
    refine .done (hK _ ?_); clear hK K; simp only [thenQ, blockQ]
    refine ⟨i + 1, by omega, by omega, ?_⟩
    rw [wrap_id _ (by omega) (by omega)]
    refine Sub.slots ?_ (fun n => ?_)
    · simp [subT, look_cons]
    · simp only [lookO_cons, upto]; (repeat' split) <;> simp_all
  have h6 : i = 6 := by simp at h; omega
  subst h6
  rw [upto6]
  refine AW.exit ?_; simp only [thenQ, blockQ, reduceIte, Nat.reduceEqDiff]
  -- the marks, one after the other
  refine AW.block (AW.loop (fun s : Nat × List (Nat × AO) => mkA [(0, .raw v), (2, .ptr 2 []), (3, .ptr 3 [])] ((2, .box (enc (dgs s.1))) :: (3, .box (enc fours)) :: s.2)) (fun s => s.1 < 15625 ∧ I s.1 s.2) (fun s => 15625 - s.1) (0, os) ⟨by simp only; omega, h0⟩ ?_ ?_)
  · simp only [dgs0]
    refine Sub.slots ?_ (fun n => rfl)
    simp [subT, look_cons]
  rintro ⟨k, osk⟩ ⟨hk, hIk⟩
  simp only at hk hIk ⊢
  have gk := hI k osk hIk
  refine AW.seq (AW.seq ?_)
  refine AW.reg cd121_6 fun K hK => ?_
  simp only [g121_6, bR, Nat.reduceEqDiff, reduceIte, Int.reduceBNe, Int.reduceBEq]
  simp only [typR, useR, okR, callvR_raw, bR, Nat.reduceEqDiff, reduceIte, Int.reduceBNe, Int.reduceBEq]
  refine WP.yields (ow := [(2, _), (3, _)]) (In := I (k + 1)) (Ix := Ix) (hY k osk _ hk hIk (fun r os2 h => h)) gk (hI _) hIx (by simp [AV.closeds, e_closed]) own23 (fun os2 h2 => ?_) (fun os2 h2 => ?_)
  · have g2 := hI _ os2 h2
    simp only [List.cons_append, List.nil_append]
    simp only [typR, useR, okR, eqE_arr, bR, Nat.reduceEqDiff, reduceIte, Int.reduceBNe, Int.reduceBEq]
    refine .done (hK _ ?_); clear hK K; simp only [thenQ, blockQ]
    refine AW.ite ?_
    simp only [condQ, bR, Nat.reduceEqDiff, reduceIte, Int.reduceBNe, Int.reduceBEq]
    refine ⟨fun h => ?_, fun h => ?_⟩
    · have hne : k ≠ 15624 := fun e => by simp [(dgs_fours k hk).2 e] at h
      refine AW.skip ?_; simp only [thenQ, blockQ, reduceIte, Nat.reduceEqDiff]
      refine AW.block ?_
      refine AW.seq (AW.reg cd121_7 fun K hK => ?_)
      simp only [g121_7, bR, Nat.reduceEqDiff, reduceIte, Int.reduceBNe, Int.reduceBEq]
      refine .done (hK _ ?_); clear hK K; simp only [thenQ, blockQ]
      refine AW.seq (AW.block (AW.loop (fun i : Nat => mkA [(0, .raw v), (2, .ptr 2 []), (3, .ptr 3 []), (5, .int .i64 i)] ((2, .box (enc (carry k i))) :: (3, .box (enc fours)) :: os2)) (fun i => i < 6 ∧ ∀ j, i < j → j < 6 → dg k j = 4) (fun i => i) 5 ⟨by decide, fun j h1 h2 => by omega⟩ ?_ ?_))
      · refine Sub.slots ?_ (fun n => ?_)
        · simp [subT, look_cons]
        · simp only [lookO_cons]; (repeat' split) <;> simp_all [carry]
      rintro i ⟨hi, hj⟩
      refine AW.seq (AW.seq ?_)
      refine AW.reg cd121_8 fun K hK => ?_
      simp only [g121_8, bR, Nat.reduceEqDiff, reduceIte, Int.reduceBNe, Int.reduceBEq]
      simp only [typR, useR, okR, inB_int 1 (carry k i) (show (0 : Int) ≤ i ∧ (i : Int) < (6 : Nat) by omega) rfl, atL_g (carry k i) hi, carry_g k i hi, bR, Nat.reduceEqDiff, reduceIte, Int.reduceBNe, Int.reduceBEq]
      refine .done (hK _ ?_); clear hK K; simp only [thenQ, blockQ]
      refine AW.ite ?_
      simp only [condQ, bR, Nat.reduceEqDiff, reduceIte, Int.reduceBNe, Int.reduceBEq]
      refine ⟨fun h => ?_, fun h => ?_⟩
      · have h4 : dg k i = 4 := by simpa using h
        have hi0 : i ≠ 0 := fun e => by
          subst e
          exact hne (dg_fours k hk fun j hj6 => by
            rcases Nat.eq_zero_or_pos j with e | e
            · subst e; exact h4
            · exact hj j e hj6)
        obtain ⟨i', rfl⟩ : ∃ i', i = i' + 1 := ⟨i - 1, by omega⟩
        refine AW.skip ?_; simp only [thenQ, blockQ, reduceIte, Nat.reduceEqDiff]
        refine AW.block ?_
        refine AW.seq (AW.reg cd121_9 fun K hK => ?_)
        simp only [g121_9, bR, Nat.reduceEqDiff, reduceIte, Int.reduceBNe, Int.reduceBEq]
        simp only [typR, useR, okR, inB_int 1 (carry k (i' + 1)) (show (0 : Int) ≤ ((i' + 1 : Nat) : Int) ∧ ((i' + 1 : Nat) : Int) < (6 : Nat) by omega) rfl, atL_g (carry k (i' + 1)) hi, stR3_g (carry k (i' + 1)) hi, carry_down k i' hi, bR, Nat.reduceEqDiff, reduceIte, Int.reduceBNe, Int.reduceBEq]
        refine .done (hK _ ?_); clear hK K; simp only [thenQ, blockQ]
        refine AW.reg cd121_10 fun K hK => ?_
        simp only [g121_10, bR, Nat.reduceEqDiff, reduceIte, Int.reduceBNe, Int.reduceBEq]
        refine .done (hK _ ?_); clear hK K; simp only [thenQ, blockQ]
        refine ⟨i', ⟨by omega, fun j h1 h2 => ?_⟩, by omega, ?_⟩
        · rcases Nat.lt_or_ge (i' + 1) j with h5 | h5
          · exact hj j h5 h2
          · have : j = i' + 1 := by omega
            subst this; exact h4
        · rw [wrap_id _ (by omega) (by omega)]
          have e2 : (((i' + 1 : Nat) : Int) - 1) = (i' : Int) := by omega
          rw [e2]
          refine Sub.slots ?_ (fun n => ?_)
          · simp [subT, look_cons]
          · simp only [lookO_cons]; (repeat' split) <;> simp_all
      · have h4 : dg k i ≠ 4 := by simpa using h
        have hd := dg_in k i
        refine AW.exit ?_; simp only [thenQ, blockQ, reduceIte, Nat.reduceEqDiff]
        refine AW.reg cd121_11 fun K hK => ?_
        simp only [g121_11, bR, Nat.reduceEqDiff, reduceIte, Int.reduceBNe, Int.reduceBEq]
        simp only [typR, useR, okR, inB_int 1 (carry k i) (show (0 : Int) ≤ i ∧ (i : Int) < (6 : Nat) by omega) rfl, atL_g (carry k i) hi, carry_g k i hi, stR3_g (carry k i) hi, bR, Nat.reduceEqDiff, reduceIte, Int.reduceBNe, Int.reduceBEq]
        refine .done (hK _ ?_); clear hK K; simp only [thenQ, blockQ]
        refine ⟨(k + 1, os2), ⟨by simp only; omega, h2⟩, by simp only; omega, ?_⟩
        simp only
        rw [wrap_id _ (by omega) (by omega), carry_up k hk i hi hj h4]
        refine Sub.slots ?_ (fun n => ?_)
        · simp [subT, look_cons]
        · simp only [lookO_cons]; (repeat' split) <;> simp_all
    · have he : k = 15624 := by
        refine (dgs_fours k hk).1 ?_
        simpa using h
      subst he
      refine AW.exit ?_; simp only [thenQ, blockQ, reduceIte, Nat.reduceEqDiff]
      rw [retO_normal]
      exact ⟨os2, [], heldG (ow := [(2, _), (3, _)]) g2 own23, trivial, rfl, .inl h2⟩
  · have g2 := hIx os2 h2
    simp only [List.cons_append, List.nil_append]
    simp only [typR, useR, okR, bR, Nat.reduceEqDiff, reduceIte, Int.reduceBNe, Int.reduceBEq]
    refine .done (hK _ ?_); clear hK K; simp only [thenQ, blockQ]
    refine AW.ite ?_
    simp only [condQ, bR, Nat.reduceEqDiff, reduceIte, Int.reduceBNe, Int.reduceBEq]
    refine ⟨fun h => ?_, fun h => ?_⟩
    · cases h
    refine AW.exit ?_; simp only [thenQ, blockQ, reduceIte, Nat.reduceEqDiff]
    rw [retO_normal]
    exact ⟨os2, [], heldG (ow := [(2, _), (3, _)]) g2 own23, trivial, rfl, .inr h2⟩

theorem F101 : Ctr Try.prog 101 [] (.func 121 []) := by
  refine Ctr.mk' Try.func101 ca101 cc101 cr101 (Nat.le_of_ble_eq_true rfl) (fun hwf W0 D0 E1 => ?_)
  simp only [c101, r101, idx, Nat.zero_add, Nat.reduceAdd]
  refine AW.seq (AW.reg cd101_0 fun K hK => ?_)
  simp only [g101_0, bR, Nat.reduceEqDiff, reduceIte, Int.reduceBNe, Int.reduceBEq]
  refine .done (hK _ ?_); clear hK K; simp only [thenQ, blockQ]
  refine AW.seq (AW.reg cd101_1 fun K hK => ?_)
  simp only [g101_1, bR, Nat.reduceEqDiff, reduceIte, Int.reduceBNe, Int.reduceBEq]
  refine .done (hK _ ?_); clear hK K; simp only [thenQ, blockQ]
  refine AW.ret ?_
  simp only [blockQ, thenQ, bR, Nat.reduceEqDiff, reduceIte, Int.reduceBNe, Int.reduceBEq]

end Go.Proofs.Ytkjkbpgdpnapfaa

/-
  FUNCTIONS OF mark BY CONTRACT: Next.
-/
namespace Go.Proofs.Ytkjkbpgdpnapfaa
open Go Go.Abs
open Go.Abs.Enc (enc)

def blocked (m : Marks) (k : Arr 6 Int) : Bool := m.given.any fun g => tooNear m g.mark k
def nextK (m : Marks) : Option Nat := (List.range 15625).find? fun k => !blocked m (dgs k)
def nextOf (m : Marks) : Arr 6 Int × Int := if okM m then (if m.given.length = 40 then (zero6, 16) else match nextK m with
  | some k => (dgs k, 0)
  | none => (zero6, 16)) else (zero6, 13)

theorem find_range (p : Nat → Bool) {n k : Nat} (hk : k < n) (h1 : p k = true) (h2 : ∀ j, j < k → p j = false) : (List.range n).find? p = some k := by
  rw [List.find?_range_eq_some]
  exact ⟨h1, by simpa using hk, fun j hj => by simp [h2 j hj]⟩
theorem find_range_none (p : Nat → Bool) {n : Nat} (h : ∀ k, k < n → p k = false) : (List.range n).find? p = none := by
  rw [List.find?_eq_none]
  intro k hk
  simp [h k (by simpa using hk)]

theorem okMark_dgs (k : Nat) : okMark (dgs k) = true := by
  simp only [okMark, List.all_eq_true, List.mem_range]
  intro i hi
  have : (dgs k).g i = dg k i := by
    match i, hi with
    | 0, _ | 1, _ | 2, _ | 3, _ | 4, _ | 5, _ => rfl
    | n + 6, h => exact absurd h (by omega)
  rw [this]
  have := dg_in k i
  simp [inR, this.1, this.2]

def nx (m : Marks) (r : Arr 6 Int) (e : Int) : List (Nat × AO) := [(1000001, .box (enc m)), (1000002, .box (enc r)), (1000003, .box (.int .i64 e))]
theorem nx_good (m : Marks) (r : Arr 6 Int) (e : Int) (m' : Marks) (r' : Arr 6 Int) (e' : Int) : GoodO (nx m r e) (nx m' r' e') := by
  refine ⟨fun n => by simp only [nx, isIn, lookO]; (repeat' split) <;> rfl, fun n x h => ?_, fun n h => ?_⟩
  · simp only [nx, lookO] at h
    repeat' split at h
    all_goals first | (cases h; done) | (simp only [Option.some.injEq] at h; subst h; exact ⟨by simp [AO.only, e_only, AV.only], rfl⟩)
  · simp only [nx, isIn, lookO] at h
    repeat' split at h
    all_goals first | omega | (simp at h; done)

theorem stR3_i {A : AState} {n : Nat} {b : AV} {v u : Int} {rest : List G} : stR3 A none n [] b (.int .i64 v) rest (some (.int .i64 u)) = aops rest (A.setO n (.box (.int .i64 v))) := by
  rw [stR3_ok (s := none) (v := .int .i64 v) (old := .int .i64 u) rfl rfl rfl, setAt_nil]
theorem stR3_6 {A : AState} {n : Nat} {b : AV} {v u : Arr 6 Int} {rest : List G} : stR3 A (some 6) n [] b (enc v) rest (some (enc u)) = aops rest (A.setO n (.box (enc v))) := by
  rw [stR3_ok (e_isVal _) (by rw [e_okS]; rfl) ((e_sh _).trans (e_sh _).symm), setAt_nil]

theorem stR3_G {A : AState} {n : Nat} {b : AV} {v u : Given} {rest : List G} : stR3 A (some 7) n [] b (enc v) rest (some (enc u)) = aops rest (A.setO n (.box (enc v))) := by
  rw [stR3_ok (e_isVal _) (by rw [e_okS]; rfl) ((e_sh _).trans (e_sh _).symm), setAt_nil]
theorem blocked_at {m : Marks} {k : Arr 6 Int} {i : Nat} (hi : i < m.given.length) (h : tooNear m (gv m i).mark k = true) : blocked m k = true := by
  simp only [blocked, List.any_eq_true]
  exact ⟨m.given[i], List.getElem_mem hi, by rw [gv_eq hi]; exact h⟩
theorem blocked_no {m : Marks} {k : Arr 6 Int} (h : ∀ i, i < m.given.length → tooNear m (gv m i).mark k = false) : blocked m k = false := by
  rw [blocked, List.any_eq_false]
  intro g hg
  obtain ⟨i, hi, rfl⟩ := List.getElem_of_mem hg
  rw [gv_eq hi, h i hi]; simp

theorem F55 (m : Marks) : Ctr Try.prog 55 [enc m] (.tuple [enc (nextOf m).1, enc (nextOf m).2]) := by
  refine Ctr.mk' Try.func55 ca55 cc55 cr55 (Nat.le_of_ble_eq_true rfl) (fun hwf W0 D0 E1 => ?_)
  simp only [c55, r55, idx, Nat.zero_add, Nat.reduceAdd]
  refine AW.seq (AW.reg cd55_0 fun K hK => ?_)
  simp only [g55_0, bR, Nat.reduceEqDiff, reduceIte, Int.reduceBNe, Int.reduceBEq]
  simp only [e_zero6, bR, Nat.reduceEqDiff, reduceIte, Int.reduceBNe, Int.reduceBEq]
  refine .done (hK _ ?_); clear hK K; simp only [thenQ, blockQ]
  refine AW.scope ?_
  refine AW.seq ?_
  refine AW.seq (AW.reg cd55_1 fun K hK => ?_)
  simp only [g55_1, bR, Nat.reduceEqDiff, reduceIte, Int.reduceBNe, Int.reduceBEq]
  simp only [typR, useR, okR, e_fin, bR, Nat.reduceEqDiff, reduceIte, Int.reduceBNe, Int.reduceBEq]
  refine .flat _ (F47 m) rfl ?_
  generalize hm : okM m = bm
  cases bm
  · try simp only [typR, useR, okR, e_fin, bR, Nat.reduceEqDiff, reduceIte, Int.reduceBNe, Int.reduceBEq]
    refine .done (hK _ ?_); clear hK K; simp only [thenQ, blockQ]
    refine AW.seq (AW.reg cd55_2 fun K hK => ?_)
    simp only [g55_2, bR, Nat.reduceEqDiff, reduceIte, Int.reduceBNe, Int.reduceBEq]
    refine .done (hK _ ?_); clear hK K; simp only [thenQ, blockQ]
    refine AW.ite ?_
    simp only [condQ, bR, Nat.reduceEqDiff, reduceIte, Int.reduceBNe, Int.reduceBEq]
    refine ⟨fun h => ?_, fun h => ?_⟩
    · refine AW.seq (AW.reg cd55_3 fun K hK => ?_)
      simp only [g55_3, bR, Nat.reduceEqDiff, reduceIte, Int.reduceBNe, Int.reduceBEq]
      simp only [setParts, e_zero6, bR, Nat.reduceEqDiff, reduceIte, Int.reduceBNe, Int.reduceBEq]
      simp only [stR3_6, stR3_i, bR, Nat.reduceEqDiff, reduceIte, Int.reduceBNe, Int.reduceBEq]
      refine .done (hK _ ?_); clear hK K; simp only [thenQ, blockQ]
      refine AW.ret ?_
      simp only [scopeQ, thenQ, blockQ, typR, e_fin, setAt_nil, e_int, bR, Nat.reduceEqDiff, reduceIte, Int.reduceBNe, Int.reduceBEq]
      simp [nextOf, hm, e_int]
    · cases h
  try simp only [typR, useR, okR, e_fin, bR, Nat.reduceEqDiff, reduceIte, Int.reduceBNe, Int.reduceBEq]
  refine .done (hK _ ?_); clear hK K; simp only [thenQ, blockQ]
  refine AW.seq (AW.reg cd55_2 fun K hK => ?_)
  simp only [g55_2, bR, Nat.reduceEqDiff, reduceIte, Int.reduceBNe, Int.reduceBEq]
  refine .done (hK _ ?_); clear hK K; simp only [thenQ, blockQ]
  refine AW.ite ?_
  simp only [condQ, bR, Nat.reduceEqDiff, reduceIte, Int.reduceBNe, Int.reduceBEq]
  refine ⟨fun h => ?_, fun h => ?_⟩
  · cases h
  refine AW.skip ?_; simp only [thenQ, blockQ, reduceIte, Nat.reduceEqDiff]
  refine AW.seq ?_
  refine AW.seq (AW.reg cd55_4 fun K hK => ?_)
  simp only [g55_4, bR, Nat.reduceEqDiff, reduceIte, Int.reduceBNe, Int.reduceBEq]
  try simp only [typR, useR, okR, e_fin, bR, Nat.reduceEqDiff, reduceIte, Int.reduceBNe, Int.reduceBEq]
  refine .done (hK _ ?_); clear hK K; simp only [thenQ, blockQ]
  refine AW.ite ?_
  simp only [condQ, bR, Nat.reduceEqDiff, reduceIte, Int.reduceBNe, Int.reduceBEq]
  refine ⟨fun h => ?_, fun h => ?_⟩
  · have h40 : m.given.length = 40 := by simp at h; omega
    refine AW.seq (AW.reg cd55_5 fun K hK => ?_)
    simp only [g55_5, bR, Nat.reduceEqDiff, reduceIte, Int.reduceBNe, Int.reduceBEq]
    simp only [setParts, e_zero6, bR, Nat.reduceEqDiff, reduceIte, Int.reduceBNe, Int.reduceBEq]
    simp only [stR3_6, stR3_i, bR, Nat.reduceEqDiff, reduceIte, Int.reduceBNe, Int.reduceBEq]
    refine .done (hK _ ?_); clear hK K; simp only [thenQ, blockQ]
    refine AW.ret ?_
    simp only [scopeQ, thenQ, blockQ, typR, e_fin, setAt_nil, e_int, bR, Nat.reduceEqDiff, reduceIte, Int.reduceBNe, Int.reduceBEq]
    simp [nextOf, hm, h40, e_int]
  have h40 : m.given.length ≠ 40 := by simp at h; omega
  have hlen := okM_len hm
  refine AW.skip ?_; simp only [thenQ, blockQ, reduceIte, Nat.reduceEqDiff]
  refine AW.seq (AW.label ?_)
  simp only [thenQ, blockQ]
  refine AW.seq ?_
  refine AW.seq (AW.reg cd55_6 fun K hK => ?_)
  simp only [g55_6, bR, Nat.reduceEqDiff, reduceIte, Int.reduceBNe, Int.reduceBEq]
  try simp only [typR, useR, okR, e_fin, bR, Nat.reduceEqDiff, reduceIte, Int.reduceBNe, Int.reduceBEq]
  refine .lead _ F101 ?_
  simp only [bR, Nat.reduceEqDiff, reduceIte, Int.reduceBNe, Int.reduceBEq]
  refine .done (hK _ ?_); clear hK K; simp only [thenQ, blockQ]
  refine AW.block (AW.rfun (osb0 := nx m zero6 0) (tsR := [(1, .ptr 1000001 []), (2, .ptr 1000002 []), (3, .ptr 1000003 [])]) (ρ := [(1999999, 999999), (1000001, 1), (1000002, 2), (1000003, 3)])
    (fun k os => os = nx m zero6 0 ∧ ∀ j, j < k → blocked m (dgs j) = true)
    (fun e os => e = none ∧ ∃ k, k < 15625 ∧ os = nx m (dgs k) 0 ∧ blocked m (dgs k) = false ∧ ∀ j, j < k → blocked m (dgs j) = true)
    rfl (Nat.le_of_ble_eq_true rfl) ?_ rfl ca121 F121 (fun _ => rfl) ?_ ?_ rfl (fun o => ⟨?_, ?_⟩) ?_ ?_ ?_ ⟨rfl, fun j h => by omega⟩ ?_ ?_ ?_)
  · simp only [bR, Nat.reduceEqDiff, reduceIte, Int.reduceBNe, Int.reduceBEq]
  · simp [lookO]
  · simp [nx, isIn, lookO]
  · intro n x hx
    simp only [recd, nx, lookO] at hx
    repeat' split at hx
    all_goals first | (cases hx; done) | (subst_vars; simp only [Option.some.injEq] at hx; subst hx; simp [recd, nx, rnm, lookO, AO.ren, AV.ren, e_ren, AO.only, AV.only, e_only, AO.fix, e_int])
  · intro a b ha hb
    simp only [recd, nx, isIn, lookO] at ha hb
    repeat' split at ha
    all_goals first | (simp at ha; done) | skip
    all_goals (repeat' split at hb)
    all_goals first | (simp at hb; done) | (subst_vars; simp [rnm])
  · simp [slotsOk, look_cons, AV.ren, rnm, AV.only, nx, isIn, lookO]
  · rintro k os ⟨rfl, _⟩; exact nx_good ..
  · rintro e os ⟨_, k, _, rfl, _⟩; exact nx_good ..
  · rintro k osb hk ⟨rfl, hall⟩ W1 D1 E1 l o1 o2
    simp only [putsT, recd, nx]
    refine AW.reg cd55_7 fun K hK => ?_
    simp only [g55_7, bR, Nat.reduceEqDiff, reduceIte, Int.reduceBNe, Int.reduceBEq]
    simp only [e_zero6, stR3_6, bR, Nat.reduceEqDiff, reduceIte, Int.reduceBNe, Int.reduceBEq]
    refine .done (hK _ ?_); clear hK K; simp only [thenQ, blockQ]
    refine ⟨by simp [mkA, lookO], ?_⟩
    simp only [bR, Nat.reduceEqDiff, reduceIte, Int.reduceBNe, Int.reduceBEq]
    refine AW.block (AW.seq ?_)
    refine AW.seq (AW.reg cd55_8 fun K hK => ?_)
    simp only [g55_8, bR, Nat.reduceEqDiff, reduceIte, Int.reduceBNe, Int.reduceBEq]
    try simp only [typR, useR, okR, e_fin, bR, Nat.reduceEqDiff, reduceIte, Int.reduceBNe, Int.reduceBEq]
    refine .done (hK _ ?_); clear hK K; simp only [thenQ, blockQ]
    refine AW.block (AW.loop (fun i : Nat => mkA [(1, .ptr 1000001 []), (2, .ptr 1000002 []), (3, .ptr 1000003 []), (5, .ptr 5 []), (22, enc m.given), (23, .int .i64 m.given.length), (24, .int .i64 i)]
      [(1999999, .opq o2), (5, .box (enc (dgs k))), (1000001, .box (enc m)), (1000002, .box (enc zero6)), (1000003, .box (.int .i64 0))]) (fun i => i ≤ m.given.length ∧ ∀ j, j < i → tooNear m (gv m j).mark (dgs k) = false) (fun i => m.given.length - i) 0 ⟨by omega, fun j h => by omega⟩ ?_ ?_)
    · refine Sub.of_lists ?_ ?_ ?_ ?_ <;> simp [subT, subO, onlyT, onlyO, isIn, look_cons, lookO_cons, lookO_nil, AV.only, AV.onlys, AO.only, onlys_map, onlys_append, e_only, e_int, e_bool]
    rintro i ⟨hi, hj⟩
    refine AW.seq (AW.reg cd55_9 fun K hK => ?_)
    simp only [g55_9, bR, Nat.reduceEqDiff, reduceIte, Int.reduceBNe, Int.reduceBEq]
    refine .done (hK _ ?_); clear hK K; simp only [thenQ, blockQ]
    refine AW.seq ?_
    refine AW.ite ?_
    simp only [condQ, bR, Nat.reduceEqDiff, reduceIte, Int.reduceBNe, Int.reduceBEq]
    refine ⟨fun h => ?_, fun h => ?_⟩
    · have hlt : i < m.given.length := by simp at h; omega
      refine AW.skip ?_; simp only [thenQ, blockQ, reduceIte, Nat.reduceEqDiff]
      refine AW.seq (AW.block ?_)
      refine AW.seq (AW.reg cd55_10 fun K hK => ?_)
      simp only [g55_10, bR, Nat.reduceEqDiff, reduceIte, Int.reduceBNe, Int.reduceBEq]
      try simp only [typR, useR, okR, e_fin, bR, Nat.reduceEqDiff, reduceIte, Int.reduceBNe, Int.reduceBEq]
      simp only [isE_gv hlt, bR, Nat.reduceEqDiff, reduceIte, Int.reduceBNe, Int.reduceBEq]
      try simp only [typR, useR, okR, e_fin, bR, Nat.reduceEqDiff, reduceIte, Int.reduceBNe, Int.reduceBEq]
      simp only [e_g0, stR3_G, bR, Nat.reduceEqDiff, reduceIte, Int.reduceBNe, Int.reduceBEq]
      refine .done (hK _ ?_); clear hK K; simp only [thenQ, blockQ]
      refine AW.seq ?_
      refine AW.reg cd55_11 fun K hK => ?_
      simp only [g55_11, bR, Nat.reduceEqDiff, reduceIte, Int.reduceBNe, Int.reduceBEq]
      try simp only [typR, useR, okR, e_fin, bR, Nat.reduceEqDiff, reduceIte, Int.reduceBNe, Int.reduceBEq]
      refine .flat _ (F87 m.wear (gv m i).mark (dgs k) (by rw [← gv_eq hlt]; exact okM_mark hm _ (List.getElem_mem hlt)) (okMark_dgs k)) rfl ?_
      try simp only [typR, useR, okR, e_fin, bR, Nat.reduceEqDiff, reduceIte, Int.reduceBNe, Int.reduceBEq]
      refine .done (hK _ ?_); clear hK K; simp only [thenQ, blockQ]
      have hdec : decide ((cnt (apartAt m.wear (gv m i).mark (dgs k)) 6 : Int) ≤ IntKind.i64.wrap (2 * m.fls)) = tooNear m (gv m i).mark (dgs k) := rfl
      refine AW.ite ?_
      simp only [condQ, bR, Nat.reduceEqDiff, reduceIte, Int.reduceBNe, Int.reduceBEq]
      refine ⟨fun h => ?_, fun h => ?_⟩
      · rw [hdec] at h
        refine AW.exit ?_; simp only [thenQ, blockQ, reduceIte, Nat.reduceEqDiff]
        refine ⟨nx m zero6 0, ?_, rfl, fun j hj1 => ?_⟩
        · intro n x hx
          simp only [recd, nx, lookO] at hx
          (repeat' split at hx) <;> first
            | (cases hx; done)
            | (subst_vars; simp only [Option.some.injEq] at hx; subst hx; simp [nx, recd, mkA, lookO, AO.only, AV.only, e_only, AO.fix])
        · rcases Nat.lt_or_ge j k with hlt' | hge
          · exact hall j hlt'
          · have : j = k := by omega
            subst this
            exact blocked_at hlt h
      · rw [hdec] at h
        refine AW.skip ?_; simp only [thenQ, blockQ, reduceIte, Nat.reduceEqDiff]
        refine AW.reg cd55_12 fun K hK => ?_
        simp only [g55_12, bR, Nat.reduceEqDiff, reduceIte, Int.reduceBNe, Int.reduceBEq]
        refine .done (hK _ ?_); clear hK K; simp only [thenQ, blockQ]
        refine ⟨i + 1, ⟨by omega, fun j hj1 => ?_⟩, by omega, ?_⟩
        · rcases Nat.lt_or_ge j i with hlt' | hge
          · exact hj j hlt'
          · have : j = i := by omega
            subst this; exact h
        · rw [wrap_id _ (by omega) (by omega)]
          refine Sub.of_lists ?_ ?_ ?_ ?_ <;> simp [subT, subO, onlyT, onlyO, isIn, look_cons, lookO_cons, lookO_nil, AV.only, AV.onlys, AO.only, onlys_map, onlys_append, e_only, e_int, e_bool]
    · have he : i = m.given.length := by simp at h; omega
      subst he
      refine AW.exit ?_; simp only [thenQ, blockQ, reduceIte, Nat.reduceEqDiff]
      refine AW.seq (AW.reg cd55_13 fun K hK => ?_)
      simp only [g55_13, bR, Nat.reduceEqDiff, reduceIte, Int.reduceBNe, Int.reduceBEq]
      simp only [stR3_6, stR3_i, typR, useR, okR, bR, Nat.reduceEqDiff, reduceIte, Int.reduceBNe, Int.reduceBEq]
      refine .done (hK _ ?_); clear hK K; simp only [thenQ, blockQ]
      refine AW.ret ?_
      simp only [thenQ, blockQ]
      refine ⟨nx m (dgs k) 0, ?_, rfl, k, hk, rfl, blocked_no hj, hall⟩
      intro n x hx
      simp only [recd, nx, lookO] at hx
      (repeat' split at hx) <;> first
        | (cases hx; done)
        | (subst_vars; simp only [Option.some.injEq] at hx; subst hx; simp [nx, recd, mkA, lookO, AO.only, AV.only, e_only, AO.fix])
  · rintro os ⟨rfl, hall⟩
    simp only [blockQ, thenQ, nx, renR, e_ren, List.cons_append, List.nil_append, bR, Nat.reduceEqDiff, reduceIte, Int.reduceBNe, Int.reduceBEq]
    refine AW.seq (AW.reg cd55_14 fun K hK => ?_)
    simp only [g55_14, bR, Nat.reduceEqDiff, reduceIte, Int.reduceBNe, Int.reduceBEq]
    simp only [setParts, e_zero6, stR3_6, stR3_i, bR, Nat.reduceEqDiff, reduceIte, Int.reduceBNe, Int.reduceBEq]
    refine .done (hK _ ?_); clear hK K; simp only [thenQ, blockQ]
    refine AW.ret ?_
    simp only [scopeQ, thenQ, blockQ, typR, e_fin, setAt_nil, e_int, bR, Nat.reduceEqDiff, reduceIte, Int.reduceBNe, Int.reduceBEq]
    have hn : nextK m = none := find_range_none _ fun k hk => by simp [hall k hk]
    simp [nextOf, hm, h40, hn, e_int]
  · rintro e os ⟨rfl, k, hk, rfl, hb, hall⟩
    simp only [exitOf, blockQ, thenQ, scopeQ, nx, renR, e_ren, List.cons_append, List.nil_append, typR, e_fin, bR, Nat.reduceEqDiff, reduceIte, Int.reduceBNe, Int.reduceBEq]
    have hn : nextK m = some k := find_range _ hk (by simp [hb]) fun j hj => by simp [hall j hj]
    simp [nextOf, hm, h40, hn, e_int]

end Go.Proofs.Ytkjkbpgdpnapfaa

/-
  FUNCTIONS OF mark BY CONTRACT: arePlaces, list; of cmp and slices: Compare.
-/
namespace Go.Proofs.Ytkjkbpgdpnapfaa
open Go Go.Abs
open Go.Abs.Enc (enc)

theorem F123 (x : Int) : Ctr Try.prog 123 [enc x] (enc false) := by
  refine Ctr.mk' Try.func123 ca123 cc123 cr123 (Nat.le_of_ble_eq_true rfl) (fun hwf W0 D0 E1 => ?_)
  simp only [c123, r123, idx, Nat.zero_add, Nat.reduceAdd]
  refine AW.seq (AW.reg cd123_0 fun K hK => ?_)
  simp only [g123_0, bR, Nat.reduceEqDiff, reduceIte, Int.reduceBNe, Int.reduceBEq]
  refine .done (hK _ ?_); clear hK K; simp only [thenQ, blockQ]
  refine AW.seq (AW.reg cd123_1 fun K hK => ?_)
  simp only [g123_1, bR, Nat.reduceEqDiff, reduceIte, Int.reduceBNe, Int.reduceBEq]
  refine .done (hK _ ?_); clear hK K; simp only [thenQ, blockQ]
  refine AW.ret ?_
  simp only [blockQ, thenQ, bR, Nat.reduceEqDiff, reduceIte, Int.reduceBNe, Int.reduceBEq]
  simp

def cmpI (x y : Int) : Int := if x < y then -1 else if y < x then 1 else 0
theorem F106 (x y : Int) : Ctr Try.prog 106 [enc x, enc y] (enc (cmpI x y)) := by
  refine Ctr.mk' Try.func106 ca106 cc106 cr106 (Nat.le_of_ble_eq_true rfl) (fun hwf W0 D0 E1 => ?_)
  simp only [c106, r106, idx, Nat.zero_add, Nat.reduceAdd]
  refine AW.seq (AW.reg cd106_0 fun K hK => ?_)
  simp only [g106_0, bR, Nat.reduceEqDiff, reduceIte, Int.reduceBNe, Int.reduceBEq]
  refine .done (hK _ ?_); clear hK K; simp only [thenQ, blockQ]
  refine AW.seq (AW.reg cd106_1 fun K hK => ?_)
  simp only [g106_1, bR, Nat.reduceEqDiff, reduceIte, Int.reduceBNe, Int.reduceBEq]
  refine .flat _ (F123 x) rfl ?_
  try simp only [typR, useR, okR, e_fin, bR, Nat.reduceEqDiff, reduceIte, Int.reduceBNe, Int.reduceBEq]
  refine .done (hK _ ?_); clear hK K; simp only [thenQ, blockQ]
  refine AW.seq (AW.reg cd106_2 fun K hK => ?_)
  simp only [g106_2, bR, Nat.reduceEqDiff, reduceIte, Int.reduceBNe, Int.reduceBEq]
  refine .flat _ (F123 y) rfl ?_
  try simp only [typR, useR, okR, e_fin, bR, Nat.reduceEqDiff, reduceIte, Int.reduceBNe, Int.reduceBEq]
  refine .done (hK _ ?_); clear hK K; simp only [thenQ, blockQ]
  refine AW.seq ?_
  refine AW.seq (AW.reg cd106_3 fun K hK => ?_)
  simp only [g106_3, bR, Nat.reduceEqDiff, reduceIte, Int.reduceBNe, Int.reduceBEq]
  refine .done (hK _ ?_); clear hK K; simp only [thenQ, blockQ]
  refine AW.ite ?_
  simp only [condQ, bR, Nat.reduceEqDiff, reduceIte, Int.reduceBNe, Int.reduceBEq]
  refine ⟨fun h => ?_, fun h => ?_⟩
  · cases h
  refine AW.skip ?_; simp only [thenQ, blockQ, reduceIte, Nat.reduceEqDiff]
  refine AW.seq ?_
  refine AW.seq (AW.reg cd106_7 fun K hK => ?_)
  simp only [g106_7, bR, Nat.reduceEqDiff, reduceIte, Int.reduceBNe, Int.reduceBEq]
  refine .done (hK _ ?_); clear hK K; simp only [thenQ, blockQ]
  refine AW.ite ?_
  simp only [condQ, bR, Nat.reduceEqDiff, reduceIte, Int.reduceBNe, Int.reduceBEq]
  refine ⟨fun h => ?_, fun h => ?_⟩
  · cases h
  refine AW.skip ?_; simp only [thenQ, blockQ, reduceIte, Nat.reduceEqDiff]
  refine AW.seq ?_
  refine AW.seq (AW.reg cd106_9 fun K hK => ?_)
  simp only [g106_9, bR, Nat.reduceEqDiff, reduceIte, Int.reduceBNe, Int.reduceBEq]
  refine .done (hK _ ?_); clear hK K; simp only [thenQ, blockQ]
  refine AW.ite ?_
  simp only [condQ, bR, Nat.reduceEqDiff, reduceIte, Int.reduceBNe, Int.reduceBEq]
  refine ⟨fun h => ?_, fun h => ?_⟩
  · refine AW.seq (AW.reg cd106_10 fun K hK => ?_)
    simp only [g106_10, bR, Nat.reduceEqDiff, reduceIte, Int.reduceBNe, Int.reduceBEq]
    refine .done (hK _ ?_); clear hK K; simp only [thenQ, blockQ]
    refine AW.ret ?_
    simp only [blockQ, thenQ, bR, Nat.reduceEqDiff, reduceIte, Int.reduceBNe, Int.reduceBEq]
    have : x < y := by simpa using h
    simp [cmpI, this, e_int]
  have h1 : ¬ x < y := by simpa using h
  refine AW.skip ?_; simp only [thenQ, blockQ, reduceIte, Nat.reduceEqDiff]
  refine AW.seq ?_
  refine AW.seq (AW.reg cd106_11 fun K hK => ?_)
  simp only [g106_11, bR, Nat.reduceEqDiff, reduceIte, Int.reduceBNe, Int.reduceBEq]
  refine .done (hK _ ?_); clear hK K; simp only [thenQ, blockQ]
  refine AW.ite ?_
  simp only [condQ, bR, Nat.reduceEqDiff, reduceIte, Int.reduceBNe, Int.reduceBEq]
  refine ⟨fun h => ?_, fun h => ?_⟩
  · refine AW.seq (AW.reg cd106_12 fun K hK => ?_)
    simp only [g106_12, bR, Nat.reduceEqDiff, reduceIte, Int.reduceBNe, Int.reduceBEq]
    refine .done (hK _ ?_); clear hK K; simp only [thenQ, blockQ]
    refine AW.ret ?_
    simp only [blockQ, thenQ, bR, Nat.reduceEqDiff, reduceIte, Int.reduceBNe, Int.reduceBEq]
    have : y < x := by simpa using h
    simp [cmpI, this, h1, e_int]
  have h2 : ¬ y < x := by simpa using h
  refine AW.skip ?_; simp only [thenQ, blockQ, reduceIte, Nat.reduceEqDiff]
  refine AW.seq (AW.reg cd106_13 fun K hK => ?_)
  simp only [g106_13, bR, Nat.reduceEqDiff, reduceIte, Int.reduceBNe, Int.reduceBEq]
  refine .done (hK _ ?_); clear hK K; simp only [thenQ, blockQ]
  refine AW.ret ?_
  simp only [blockQ, thenQ, bR, Nat.reduceEqDiff, reduceIte, Int.reduceBNe, Int.reduceBEq]
  simp [cmpI, h1, h2, e_int]

def cmpL : List Int → List Int → Int
  | [], [] => 0
  | [], _ :: _ => -1
  | _ :: _, [] => 1
  | a :: x, b :: y => if cmpI a b = 0 then cmpL x y else cmpI a b

theorem cmpL_drop {a b : List Int} {i : Nat} (ha : i < a.length) (hb : i < b.length) : cmpL (a.drop i) (b.drop i) = if cmpI (a.getD i 0) (b.getD i 0) = 0 then cmpL (a.drop (i + 1)) (b.drop (i + 1)) else cmpI (a.getD i 0) (b.getD i 0) := by
  rw [List.drop_eq_getElem_cons ha, List.drop_eq_getElem_cons hb]
  simp only [cmpL, List.getD_eq_getElem?_getD, List.getElem?_eq_getElem ha, List.getElem?_eq_getElem hb, Option.getD_some]

theorem F66 (a b : List Int) : Ctr Try.prog 66 [enc a, enc b] (enc (cmpL a b)) := by
  refine Ctr.mk' Try.func66 ca66 cc66 cr66 (Nat.le_of_ble_eq_true rfl) (fun hwf W0 D0 E1 => ?_)
  simp only [c66, r66, idx, Nat.zero_add, Nat.reduceAdd]
  have hlen : a.length ≤ maxLen := ((wf_list a).1 hwf.1).1
  have hlen2 : b.length ≤ maxLen := ((wf_list b).1 hwf.2.1).1
  simp only [maxLen] at hlen hlen2
  refine AW.seq (AW.reg cd66_0 fun K hK => ?_)
  simp only [g66_0, bR, Nat.reduceEqDiff, reduceIte, Int.reduceBNe, Int.reduceBEq]
  refine .done (hK _ ?_); clear hK K; simp only [thenQ, blockQ]
  refine AW.seq ?_
  refine AW.seq (AW.reg cd66_1 fun K hK => ?_)
  simp only [g66_1, bR, Nat.reduceEqDiff, reduceIte, Int.reduceBNe, Int.reduceBEq]
  try simp only [typR, useR, okR, e_fin, bR, Nat.reduceEqDiff, reduceIte, Int.reduceBNe, Int.reduceBEq]
  refine .done (hK _ ?_); clear hK K; simp only [thenQ, blockQ]
  refine AW.block (AW.loop (fun i : Nat => mkA [(0, enc a), (1, enc b), (9, enc a), (10, .int .i64 a.length), (11, .int .i64 i)] []) (fun i => i ≤ a.length ∧ i ≤ b.length ∧ cmpL a b = cmpL (a.drop i) (b.drop i)) (fun i => a.length - i) 0 ⟨by omega, by omega, rfl⟩ ?_ (fun i hi => ?_))
  · refine Sub.of_lists ?_ ?_ ?_ ?_ <;> simp [subT, subO, onlyT, onlyO, isIn, look_cons, lookO_cons, lookO_nil, AV.only, AV.onlys, AO.only, onlys_map, onlys_append, e_only, e_int, e_bool]
  obtain ⟨hi1, hi2, hi3⟩ := hi
  refine AW.seq (AW.reg cd66_2 fun K hK => ?_)
  simp only [g66_2, bR, Nat.reduceEqDiff, reduceIte, Int.reduceBNe, Int.reduceBEq]
  refine .done (hK _ ?_); clear hK K; simp only [thenQ, blockQ]
  refine AW.seq ?_
  refine AW.ite ?_
  simp only [condQ, bR, Nat.reduceEqDiff, reduceIte, Int.reduceBNe, Int.reduceBEq]
  refine ⟨fun h => ?_, fun h => ?_⟩
  case refine_2.refine_2 =>
    have hge : i = a.length := by simp at h; omega
    subst hge
    refine AW.exit ?_; simp only [thenQ, blockQ, reduceIte, Nat.reduceEqDiff]
    refine AW.seq ?_
    refine AW.seq (AW.reg cd66_11 fun K hK => ?_)
    simp only [g66_11, bR, Nat.reduceEqDiff, reduceIte, Int.reduceBNe, Int.reduceBEq]
    try simp only [typR, useR, okR, e_fin, bR, Nat.reduceEqDiff, reduceIte, Int.reduceBNe, Int.reduceBEq]
    refine .done (hK _ ?_); clear hK K; simp only [thenQ, blockQ]
    rw [List.drop_length] at hi3
    refine AW.ite ?_
    simp only [condQ, bR, Nat.reduceEqDiff, reduceIte, Int.reduceBNe, Int.reduceBEq]
    refine ⟨fun h => ?_, fun h => ?_⟩
    · refine AW.seq (AW.reg cd66_12 fun K hK => ?_)
      simp only [g66_12, bR, Nat.reduceEqDiff, reduceIte, Int.reduceBNe, Int.reduceBEq]
      refine .done (hK _ ?_); clear hK K; simp only [thenQ, blockQ]
      refine AW.ret ?_
      simp only [blockQ, thenQ, bR, Nat.reduceEqDiff, reduceIte, Int.reduceBNe, Int.reduceBEq]
      have hlt : a.length < b.length := by simp at h; omega
      rw [hi3, List.drop_eq_getElem_cons hlt]
      rfl
    · refine AW.skip ?_; simp only [thenQ, blockQ, reduceIte, Nat.reduceEqDiff]
      refine AW.seq (AW.reg cd66_13 fun K hK => ?_)
      simp only [g66_13, bR, Nat.reduceEqDiff, reduceIte, Int.reduceBNe, Int.reduceBEq]
      refine .done (hK _ ?_); clear hK K; simp only [thenQ, blockQ]
      refine AW.ret ?_
      simp only [blockQ, thenQ, bR, Nat.reduceEqDiff, reduceIte, Int.reduceBNe, Int.reduceBEq]
      have hge : b.length ≤ a.length := by simp at h; omega
      rw [hi3, List.drop_of_length_le hge]
      rfl
  have hlt : i < a.length := by simp at h; omega
  refine AW.skip ?_; simp only [thenQ, blockQ, reduceIte, Nat.reduceEqDiff]
  refine AW.seq (AW.block ?_)
  refine AW.seq (AW.reg cd66_3 fun K hK => ?_)
  simp only [g66_3, bR, Nat.reduceEqDiff, reduceIte, Int.reduceBNe, Int.reduceBEq]
  simp only [typR, useR, okR, isE_getD hlt, bR, Nat.reduceEqDiff, reduceIte, Int.reduceBNe, Int.reduceBEq]
  refine .done (hK _ ?_); clear hK K; simp only [thenQ, blockQ]
  refine AW.seq ?_
  refine AW.seq (AW.reg cd66_4 fun K hK => ?_)
  simp only [g66_4, bR, Nat.reduceEqDiff, reduceIte, Int.reduceBNe, Int.reduceBEq]
  try simp only [typR, useR, okR, e_fin, bR, Nat.reduceEqDiff, reduceIte, Int.reduceBNe, Int.reduceBEq]
  refine .done (hK _ ?_); clear hK K; simp only [thenQ, blockQ]
  refine AW.ite ?_
  simp only [condQ, bR, Nat.reduceEqDiff, reduceIte, Int.reduceBNe, Int.reduceBEq]
  refine ⟨fun h => ?_, fun h => ?_⟩
  · have hge : i = b.length := by simp at h; omega
    refine AW.seq (AW.reg cd66_5 fun K hK => ?_)
    simp only [g66_5, bR, Nat.reduceEqDiff, reduceIte, Int.reduceBNe, Int.reduceBEq]
    refine .done (hK _ ?_); clear hK K; simp only [thenQ, blockQ]
    refine AW.ret ?_
    simp only [blockQ, thenQ, bR, Nat.reduceEqDiff, reduceIte, Int.reduceBNe, Int.reduceBEq]
    rw [hi3, List.drop_of_length_le (l := b) (by omega), List.drop_eq_getElem_cons hlt]
    rfl
  have hlb : i < b.length := by simp at h; omega
  refine AW.skip ?_; simp only [thenQ, blockQ, reduceIte, Nat.reduceEqDiff]
  refine AW.seq (AW.reg cd66_6 fun K hK => ?_)
  simp only [g66_6, bR, Nat.reduceEqDiff, reduceIte, Int.reduceBNe, Int.reduceBEq]
  simp only [typR, useR, okR, isE_getD hlb, bR, Nat.reduceEqDiff, reduceIte, Int.reduceBNe, Int.reduceBEq]
  refine .done (hK _ ?_); clear hK K; simp only [thenQ, blockQ]
  refine AW.seq (AW.reg cd66_7 fun K hK => ?_)
  simp only [g66_7, bR, Nat.reduceEqDiff, reduceIte, Int.reduceBNe, Int.reduceBEq]
  try simp only [typR, useR, okR, e_fin, bR, Nat.reduceEqDiff, reduceIte, Int.reduceBNe, Int.reduceBEq]
  refine .flat _ (F106 (a.getD i 0) (b.getD i 0)) rfl ?_
  try simp only [typR, useR, okR, e_fin, bR, Nat.reduceEqDiff, reduceIte, Int.reduceBNe, Int.reduceBEq]
  refine .done (hK _ ?_); clear hK K; simp only [thenQ, blockQ]
  refine AW.seq (AW.reg cd66_8 fun K hK => ?_)
  simp only [g66_8, bR, Nat.reduceEqDiff, reduceIte, Int.reduceBNe, Int.reduceBEq]
  refine .done (hK _ ?_); clear hK K; simp only [thenQ, blockQ]
  rw [cmpL_drop hlt hlb] at hi3
  refine AW.ite ?_
  simp only [condQ, bR, Nat.reduceEqDiff, reduceIte, Int.reduceBNe, Int.reduceBEq]
  refine ⟨fun h => ?_, fun h => ?_⟩
  · refine AW.seq (AW.reg cd66_9 fun K hK => ?_)
    simp only [g66_9, bR, Nat.reduceEqDiff, reduceIte, Int.reduceBNe, Int.reduceBEq]
    refine .done (hK _ ?_); clear hK K; simp only [thenQ, blockQ]
    refine AW.ret ?_
    simp only [blockQ, thenQ, bR, Nat.reduceEqDiff, reduceIte, Int.reduceBNe, Int.reduceBEq]
    have : cmpI (a.getD i 0) (b.getD i 0) ≠ 0 := by simpa using h
    rw [hi3, if_neg this]
  · have : cmpI (a.getD i 0) (b.getD i 0) = 0 := by simpa using h
    refine AW.skip ?_; simp only [thenQ, blockQ, reduceIte, Nat.reduceEqDiff]
    refine AW.reg cd66_10 fun K hK => ?_
    simp only [g66_10, bR, Nat.reduceEqDiff, reduceIte, Int.reduceBNe, Int.reduceBEq]
    refine .done (hK _ ?_); clear hK K; simp only [thenQ, blockQ]
    refine ⟨i + 1, ⟨by omega, by omega, by rw [hi3, if_pos this]⟩, by omega, ?_⟩
    rw [wrap_id _ (by omega) (by omega)]
    refine Sub.of_lists ?_ ?_ ?_ ?_ <;> simp [subT, subO, onlyT, onlyO, isIn, look_cons, lookO_cons, lookO_nil, AV.only, AV.onlys, AO.only, onlys_map, onlys_append, e_only, e_int, e_bool]


end Go.Proofs.Ytkjkbpgdpnapfaa

/-
  FUNCTIONS OF mark BY CONTRACT: arePlaces, list.
-/
namespace Go.Proofs.Ytkjkbpgdpnapfaa
open Go Go.Abs
open Go.Abs.Enc (enc)

theorem F71 (l : List Int) : Ctr Try.prog 71 [enc l] (enc (okPlaces l)) := by
  refine Ctr.mk' Try.func71 ca71 cc71 cr71 (Nat.le_of_ble_eq_true rfl) (fun hwf W0 D0 E1 => ?_)
  simp only [c71, r71, idx, Nat.zero_add, Nat.reduceAdd]
  have hlen : l.length ≤ maxLen := ((wf_list l).1 hwf.1).1
  simp only [maxLen] at hlen
  refine AW.seq (AW.reg cd71_0 fun K hK => ?_)
  simp only [g71_0, bR, Nat.reduceEqDiff, reduceIte, Int.reduceBNe, Int.reduceBEq]
  refine .done (hK _ ?_); clear hK K; simp only [thenQ, blockQ]
  refine AW.seq ?_
  refine AW.seq (AW.reg cd71_1 fun K hK => ?_)
  simp only [g71_1, bR, Nat.reduceEqDiff, reduceIte, Int.reduceBNe, Int.reduceBEq]
  try simp only [typR, useR, okR, e_fin, bR, Nat.reduceEqDiff, reduceIte, Int.reduceBNe, Int.reduceBEq]
  refine .done (hK _ ?_); clear hK K; simp only [thenQ, blockQ]
  refine AW.block (AW.loop (fun i : Nat => mkA [(0, enc l), (5, enc l), (6, .int .i64 l.length), (7, .int .i64 i)] []) (fun i => i ≤ l.length ∧ ∀ j, j < i → placeAt l j = true) (fun i => l.length - i) 0 ⟨by omega, fun k h => by omega⟩ ?_ (fun i hi => ?_))
  · refine Sub.of_lists ?_ ?_ ?_ ?_ <;> simp [subT, subO, onlyT, onlyO, isIn, look_cons, lookO_cons, lookO_nil, AV.only, AV.onlys, AO.only, onlys_map, onlys_append, e_only, e_int, e_bool]
  refine AW.seq (AW.reg cd71_2 fun K hK => ?_)
  simp only [g71_2, bR, Nat.reduceEqDiff, reduceIte, Int.reduceBNe, Int.reduceBEq]
  refine .done (hK _ ?_); clear hK K; simp only [thenQ, blockQ]
  refine AW.seq ?_
  refine AW.ite ?_
  simp only [condQ, bR, Nat.reduceEqDiff, reduceIte, Int.reduceBNe, Int.reduceBEq]
  refine ⟨fun h => ?_, fun h => ?_⟩
  case refine_2.refine_2 =>
    have hge : i = l.length := by simp at h; omega
    subst hge
    refine AW.exit ?_; simp only [thenQ, blockQ, reduceIte, Nat.reduceEqDiff]
    refine AW.seq (AW.reg cd71_7 fun K hK => ?_)
    simp only [g71_7, bR, Nat.reduceEqDiff, reduceIte, Int.reduceBNe, Int.reduceBEq]
    refine .done (hK _ ?_); clear hK K; simp only [thenQ, blockQ]
    refine AW.ret ?_
    simp only [blockQ, thenQ, bR, Nat.reduceEqDiff, reduceIte, Int.reduceBNe, Int.reduceBEq]
    rw [okPlaces, all_true hi.2]
  have hlt : i < l.length := by simpa using h
  have bad : placeAt l i = false → okPlaces l = false := fun h => all_false i hlt h
  refine AW.skip ?_; simp only [thenQ, blockQ, reduceIte, Nat.reduceEqDiff]
  refine AW.seq (AW.block ?_)
  refine AW.seq (AW.reg cd71_3 fun K hK => ?_)
  simp only [g71_3, bR, Nat.reduceEqDiff, reduceIte, Int.reduceBNe, Int.reduceBEq]
  simp only [typR, useR, okR, isE_getD hlt, bR, Nat.reduceEqDiff, reduceIte, Int.reduceBNe, Int.reduceBEq]
  refine .done (hK _ ?_); clear hK K; simp only [thenQ, blockQ]
  refine AW.seq (AW.reg cd71_4 fun K hK => ?_)
  simp only [g71_4, bR, Nat.reduceEqDiff, reduceIte, Int.reduceBNe, Int.reduceBEq]
  try simp only [typR, useR, okR, e_fin, bR, Nat.reduceEqDiff, reduceIte, Int.reduceBNe, Int.reduceBEq]
  refine .flat _ (F89 (l.getD i 0) 0 5) rfl ?_
  generalize hr : inR 0 5 (l.getD i 0) = br
  cases br
  · try simp only [typR, useR, okR, e_fin, bR, Nat.reduceEqDiff, reduceIte, Int.reduceBNe, Int.reduceBEq]
    refine .done (hK _ ?_); clear hK K; simp only [thenQ, blockQ]
    refine AW.ite ?_
    simp only [condQ, bR, Nat.reduceEqDiff, reduceIte, Int.reduceBNe, Int.reduceBEq]
    refine ⟨fun h => ?_, fun h => ?_⟩
    · refine AW.seq (AW.reg cd71_5 fun K hK => ?_)
      simp only [g71_5, bR, Nat.reduceEqDiff, reduceIte, Int.reduceBNe, Int.reduceBEq]
      refine .done (hK _ ?_); clear hK K; simp only [thenQ, blockQ]
      refine AW.ret ?_
      simp only [blockQ, thenQ, bR, Nat.reduceEqDiff, reduceIte, Int.reduceBNe, Int.reduceBEq]
      rw [bad (by simp only [placeAt, hr, Bool.false_and])]
    · cases h
  try simp only [typR, useR, okR, e_fin, bR, Nat.reduceEqDiff, reduceIte, Int.reduceBNe, Int.reduceBEq]
  generalize hz : decide (0 < (i : Int)) = bz
  cases bz
  · have hz' : i = 0 := by simp at hz; omega
    try simp only [typR, useR, okR, e_fin, bR, Nat.reduceEqDiff, reduceIte, Int.reduceBNe, Int.reduceBEq]
    refine .done (hK _ ?_); clear hK K; simp only [thenQ, blockQ]
    refine AW.ite ?_
    simp only [condQ, bR, Nat.reduceEqDiff, reduceIte, Int.reduceBNe, Int.reduceBEq]
    refine ⟨fun h => ?_, fun h => ?_⟩
    · cases h
    refine AW.skip ?_; simp only [thenQ, blockQ, reduceIte, Nat.reduceEqDiff]
    refine AW.reg cd71_6 fun K hK => ?_
    simp only [g71_6, bR, Nat.reduceEqDiff, reduceIte, Int.reduceBNe, Int.reduceBEq]
    refine .done (hK _ ?_); clear hK K; simp only [thenQ, blockQ]
    refine ⟨i + 1, ⟨by omega, fun k hk' => ?_⟩, by omega, ?_⟩
    · by_cases hki : k = i
      · rw [hki, placeAt, hr]; simp [hz']
      · exact hi.2 k (by omega)
    · rw [wrap_id _ (by omega) (by omega)]
      refine Sub.of_lists ?_ ?_ ?_ ?_ <;> simp [subT, subO, onlyT, onlyO, isIn, look_cons, lookO_cons, lookO_nil, AV.only, AV.onlys, AO.only, onlys_map, onlys_append, e_only, e_int, e_bool]
  · have hpos : 0 < i := by simpa using hz
    have hpl : i - 1 < l.length := by omega
    have hpred : IntKind.i64.wrap ((i : Int) - 1) = ((i - 1 : Nat) : Int) := by rw [wrap_id _ (by omega) (by omega)]; omega
    simp only [typR, useR, okR, hpred, isE_getD hpl, isE_getD hlt, bR, Nat.reduceEqDiff, reduceIte, Int.reduceBNe, Int.reduceBEq]
    refine .done (hK _ ?_); clear hK K; simp only [thenQ, blockQ]
    refine AW.ite ?_
    simp only [condQ, bR, Nat.reduceEqDiff, reduceIte, Int.reduceBNe, Int.reduceBEq]
    refine ⟨fun h => ?_, fun h => ?_⟩
    · refine AW.seq (AW.reg cd71_5 fun K hK => ?_)
      simp only [g71_5, bR, Nat.reduceEqDiff, reduceIte, Int.reduceBNe, Int.reduceBEq]
      refine .done (hK _ ?_); clear hK K; simp only [thenQ, blockQ]
      refine AW.ret ?_
      simp only [blockQ, thenQ, bR, Nat.reduceEqDiff, reduceIte, Int.reduceBNe, Int.reduceBEq]
      have : (i == 0 || decide (l.getD (i - 1) 0 < l.getD i 0)) = false := by
        have h1 : l.getD i 0 ≤ l.getD (i - 1) 0 := of_decide_eq_true h
        have h2 : ¬ (l.getD (i - 1) 0 < l.getD i 0) := by omega
        have h3 : ¬ i = 0 := by omega
        simp only [decide_eq_false h2, Bool.or_false, beq_eq_false_iff_ne, ne_eq, h3, not_false_eq_true]
      rw [bad (by simp only [placeAt, this, Bool.and_false])]
    have hprev : (i == 0 || decide (l.getD (i - 1) 0 < l.getD i 0)) = true := by
      have h1 : ¬ (l.getD i 0 ≤ l.getD (i - 1) 0) := of_decide_eq_false h
      have h2 : l.getD (i - 1) 0 < l.getD i 0 := by omega
      simp only [decide_eq_true h2, Bool.or_true]
    refine AW.skip ?_; simp only [thenQ, blockQ, reduceIte, Nat.reduceEqDiff]
    refine AW.reg cd71_6 fun K hK => ?_
    simp only [g71_6, bR, Nat.reduceEqDiff, reduceIte, Int.reduceBNe, Int.reduceBEq]
    refine .done (hK _ ?_); clear hK K; simp only [thenQ, blockQ]
    refine ⟨i + 1, ⟨by omega, fun k hk' => ?_⟩, by omega, ?_⟩
    · by_cases hki : k = i
      · rw [hki, placeAt, hr, hprev]; rfl
      · exact hi.2 k (by omega)
    · rw [wrap_id _ (by omega) (by omega)]
      refine Sub.of_lists ?_ ?_ ?_ ?_ <;> simp [subT, subO, onlyT, onlyO, isIn, look_cons, lookO_cons, lookO_nil, AV.only, AV.onlys, AO.only, onlys_map, onlys_append, e_only, e_int, e_bool]

theorem F81 (w : Int) (h0 : 0 ≤ w) (h1 : w ≤ 31) : Ctr Try.prog 81 [enc w] (enc (members w 5)) := by
  refine Ctr.mk' Try.func81 ca81 cc81 cr81 (Nat.le_of_ble_eq_true rfl) (fun hwf W0 D0 E1 => ?_)
  simp only [c81, r81, idx, Nat.zero_add, Nat.reduceAdd]
  refine AW.seq (AW.reg cd81_0 fun K hK => ?_)
  simp only [g81_0, bR, Nat.reduceEqDiff, reduceIte, Int.reduceBNe, Int.reduceBEq]
  refine .done (hK _ ?_); clear hK K; simp only [thenQ, blockQ]
  refine AW.seq (AW.reg cd81_1 fun K hK => ?_)
  simp only [g81_1, bR, Nat.reduceEqDiff, reduceIte, Int.reduceBNe, Int.reduceBEq]
  refine .done (hK _ ?_); clear hK K; simp only [thenQ, blockQ]
  refine AW.seq ?_
  refine AW.seq (AW.reg cd81_2 fun K hK => ?_)
  simp only [g81_2, bR, Nat.reduceEqDiff, reduceIte, Int.reduceBNe, Int.reduceBEq]
  refine .done (hK _ ?_); clear hK K; simp only [thenQ, blockQ]
  refine AW.block (AW.loop (fun i : Nat => mkA [(0, .int .i64 w), (3, .own 3 (members w i).length), (5, .int .i64 i)] [(3, .row 3 1 ((members w i).map enc))]) (fun i => i ≤ 5) (fun i => 5 - i) 0 (by omega) ?_ (fun i hi => ?_))
  · refine Sub.adoptL 3 3 3 1 1 ?_ ?_ ?_
    · simp only [absR, Nat.reduceEqDiff, reduceIte]
    · simp only [absR]
    · simp only [members, List.map_nil, List.length_nil]
      refine Sub.of_lists ?_ ?_ ?_ ?_ <;> simp [subT, subO, onlyT, onlyO, isIn, look_cons, lookO_cons, lookO_nil, AV.only, AV.onlys, AO.only, onlys_map, onlys_append, e_only, e_int, e_bool]
  refine AW.seq (AW.reg cd81_3 fun K hK => ?_)
  simp only [g81_3, bR, Nat.reduceEqDiff, reduceIte, Int.reduceBNe, Int.reduceBEq]
  refine .done (hK _ ?_); clear hK K; simp only [thenQ, blockQ]
  refine AW.seq ?_
  refine AW.ite ?_
  simp only [condQ, bR, Nat.reduceEqDiff, reduceIte, Int.reduceBNe, Int.reduceBEq]
  refine ⟨fun h => ?_, fun h => ?_⟩
  · have hlt : i < 5 := by simp at h; omega
    have hml := members_le w i
    refine AW.skip ?_; simp only [thenQ, blockQ, reduceIte, Nat.reduceEqDiff]
    refine AW.seq (AW.block ?_)
    refine AW.seq (AW.reg cd81_4 fun K hK => ?_)
    simp only [g81_4, bR, Nat.reduceEqDiff, reduceIte, Int.reduceBNe, Int.reduceBEq]
    refine .done (hK _ ?_); clear hK K; simp only [thenQ, blockQ]
    refine AW.seq ?_
    refine AW.reg cd81_5 fun K hK => ?_
    simp only [g81_5, bR, Nat.reduceEqDiff, reduceIte, Int.reduceBNe, Int.reduceBEq]
    refine .flat _ (F110 w i) rfl ?_
    simp only [has_bit w h0 h1 i hlt]
    try simp only [typR, useR, okR, e_fin, bR, Nat.reduceEqDiff, reduceIte, Int.reduceBNe, Int.reduceBEq]
    refine .done (hK _ ?_); clear hK K; simp only [thenQ, blockQ]
    refine AW.ite ?_
    simp only [condQ, bR, Nat.reduceEqDiff, reduceIte, Int.reduceBNe, Int.reduceBEq]
    refine ⟨fun h => ?_, fun h => ?_⟩
    · have hb : bit w i = true := h
      refine AW.reg cd81_6 fun K hK => ?_
      simp only [g81_6, bR, Nat.reduceEqDiff, reduceIte, Int.reduceBNe, Int.reduceBEq]
      rw [appR3_enc 3 1 8 3 rfl rfl (by simp) (by simp [maxLen]; omega) (by simp; omega)]
      simp only [bR, Nat.reduceEqDiff, reduceIte, Int.reduceBNe, Int.reduceBEq]
      refine .done (hK _ ?_); clear hK K; simp only [thenQ, blockQ]
      refine AW.reg cd81_7 fun K hK => ?_
      simp only [g81_7, bR, Nat.reduceEqDiff, reduceIte, Int.reduceBNe, Int.reduceBEq]
      refine .done (hK _ ?_); clear hK K; simp only [thenQ, blockQ]
      refine ⟨i + 1, by omega, by omega, ?_⟩
      rw [wrap_id _ (by omega) (by omega)]
      simp only [members, hb, reduceIte]
      refine Sub.of_lists ?_ ?_ ?_ ?_ <;> simp [subT, subO, onlyT, onlyO, isIn, look_cons, lookO_cons, lookO_nil, AV.only, AV.onlys, AO.only, onlys_map, onlys_append, e_only, e_int, e_bool]
    · have hb : bit w i = false := h
      refine AW.skip ?_; simp only [thenQ, blockQ, reduceIte, Nat.reduceEqDiff]
      refine AW.reg cd81_7 fun K hK => ?_
      simp only [g81_7, bR, Nat.reduceEqDiff, reduceIte, Int.reduceBNe, Int.reduceBEq]
      refine .done (hK _ ?_); clear hK K; simp only [thenQ, blockQ]
      refine ⟨i + 1, by omega, by omega, ?_⟩
      rw [wrap_id _ (by omega) (by omega)]
      simp only [members, hb, reduceIte, Bool.false_eq_true, List.append_nil]
      refine Sub.of_lists ?_ ?_ ?_ ?_ <;> simp [subT, subO, onlyT, onlyO, isIn, look_cons, lookO_cons, lookO_nil, AV.only, AV.onlys, AO.only, onlys_map, onlys_append, e_only, e_int, e_bool]
  · have hge : i = 5 := by simp at h; omega
    subst hge
    refine AW.exit ?_; simp only [thenQ, blockQ, reduceIte, Nat.reduceEqDiff]
    refine AW.seq (AW.reg cd81_8 fun K hK => ?_)
    simp only [g81_8, bR, Nat.reduceEqDiff, reduceIte, Int.reduceBNe, Int.reduceBEq]
    refine .done (hK _ ?_); clear hK K; simp only [thenQ, blockQ]
    refine AW.ret ?_
    simp only [blockQ, thenQ, bR, Nat.reduceEqDiff, reduceIte, Int.reduceBNe, Int.reduceBEq]

end Go.Proofs.Ytkjkbpgdpnapfaa

/-
  FUNCTIONS BY CONTRACT: of mark: settles; of the law: its book.
-/
namespace Go.Proofs.Ytkjkbpgdpnapfaa
open Go Go.Abs
open Go.Abs.Enc (enc)

def a6 (a b c d e f : Int) : Arr 6 Int := ⟨[a, b, c, d, e, f], rfl⟩
def a5 (a b c d e : Int) : Arr 5 Int := ⟨[a, b, c, d, e], rfl⟩
def bookM : Marks := ⟨a5 1 3 4 24 24, 0, [⟨1, a6 0 0 0 0 0 0⟩, ⟨2, a6 2 0 0 0 0 0⟩, ⟨3, a6 3 0 0 0 0 2⟩]⟩

theorem F107 (w : Arr 5 Int) (g h : Given) (k : Nat) (hk : k < 6) (hg : okMark g.mark = true) (hh : okMark h.mark = true) : Ctr Try.prog 107 (enc (k : Int) :: [.ref (enc w), .ref (enc g), .ref (enc h)]) (enc (apartAt w g.mark h.mark k)) := by
  refine Ctr.mk' Try.func107 ca107 cc107 cr107 (Nat.le_of_ble_eq_true rfl) (fun hwf W0 D0 E1 => ?_)
  simp only [c107, r107, idx, Nat.zero_add, Nat.reduceAdd]
  have h1 := okMark_at hg hk
  have h2 := okMark_at hh hk
  refine AW.seq (AW.reg cd107_0 fun K hK => ?_)
  simp only [g107_0, bR, Nat.reduceEqDiff, reduceIte, Int.reduceBNe, Int.reduceBEq]
  refine .done (hK _ ?_); clear hK K; simp only [thenQ, blockQ]
  refine AW.seq (AW.reg cd107_1 fun K hK => ?_)
  simp only [g107_1, bR, Nat.reduceEqDiff, reduceIte, Int.reduceBNe, Int.reduceBEq]
  try simp only [typR, useR, okR, e_fin, bR, Nat.reduceEqDiff, reduceIte, Int.reduceBNe, Int.reduceBEq]
  refine .flat _ (F77 w g.mark k hk h1.1 h1.2) rfl ?_
  try simp only [typR, useR, okR, e_fin, bR, Nat.reduceEqDiff, reduceIte, Int.reduceBNe, Int.reduceBEq]
  refine .flat _ (F77 w h.mark k hk h2.1 h2.2) rfl ?_
  try simp only [typR, useR, okR, e_fin, bR, Nat.reduceEqDiff, reduceIte, Int.reduceBNe, Int.reduceBEq]
  refine .flat _ (F78 _ _) rfl ?_
  try simp only [typR, useR, okR, e_fin, bR, Nat.reduceEqDiff, reduceIte, Int.reduceBNe, Int.reduceBEq]
  refine .done (hK _ ?_); clear hK K; simp only [thenQ, blockQ]
  refine AW.ret ?_
  simp only [blockQ, thenQ, bR, Nat.reduceEqDiff, reduceIte, Int.reduceBNe, Int.reduceBEq]
  simp only [apartAt, bne, Bool.not_not]

theorem bld5 (a b c d e : Int) : setParts [.int .i64 0, .int .i64 0, .int .i64 0, .int .i64 0, .int .i64 0] [(0, .int .i64 a), (1, .int .i64 b), (2, .int .i64 c), (3, .int .i64 d), (4, .int .i64 e)] = some [.int .i64 a, .int .i64 b, .int .i64 c, .int .i64 d, .int .i64 e] := rfl
theorem bld6 (a b c d e f : Int) : setParts [.int .i64 0, .int .i64 0, .int .i64 0, .int .i64 0, .int .i64 0, .int .i64 0] [(0, .int .i64 a), (1, .int .i64 b), (2, .int .i64 c), (3, .int .i64 d), (4, .int .i64 e), (5, .int .i64 f)] = some [.int .i64 a, .int .i64 b, .int .i64 c, .int .i64 d, .int .i64 e, .int .i64 f] := rfl
theorem e_a5 (a b c d e : Int) : AV.agg [.int .i64 a, .int .i64 b, .int .i64 c, .int .i64 d, .int .i64 e] = enc (a5 a b c d e) := rfl
theorem e_a6 (a b c d e f : Int) : AV.agg [.int .i64 a, .int .i64 b, .int .i64 c, .int .i64 d, .int .i64 e, .int .i64 f] = enc (a6 a b c d e f) := rfl
theorem bldG0 (o : Int) : setParts [.int .i64 0, enc (a6 0 0 0 0 0 0)] [(0, .int .i64 o)] = some [.int .i64 o, enc (a6 0 0 0 0 0 0)] := rfl
theorem setParts_cons {zs : List AV} {i : Nat} {v z : AV} {rest : List (Nat × AV)} (h : zs[i]? = some z) (h1 : v.isVal = true) (h2 : v.size = z.size) : setParts zs ((i, v) :: rest) = setParts (zs.set i v) rest := by
  simp only [setParts, h]; rw [if_pos ⟨h1, h2⟩]
theorem bldG (o : Int) (m : Arr 6 Int) : setParts [.int .i64 0, enc (a6 0 0 0 0 0 0)] [(0, .int .i64 o), (1, enc m)] = some [.int .i64 o, enc m] := by
  have h2 : ((enc m : AV).isVal = true ∧ (enc m : AV).size = (enc (a6 0 0 0 0 0 0)).size) := ⟨e_isVal _, by rw [e_size, e_size]⟩
  have h1 : ((AV.int .i64 o).isVal = true ∧ (AV.int .i64 o).size = (AV.int .i64 0).size) := ⟨rfl, rfl⟩
  rw [setParts_cons rfl h1.1 h1.2, setParts_cons rfl h2.1 h2.2]; rfl
theorem bldM (w : Arr 5 Int) (l : List Given) : setParts [enc (a5 0 0 0 0 0), .int .i64 0, .nils 7] [(0, enc w), (2, enc l)] = some [enc w, .int .i64 0, enc l] := by
  have h1 : ((enc w : AV).isVal = true ∧ (enc w : AV).size = (enc (a5 0 0 0 0 0)).size) := ⟨e_isVal _, by rw [e_size, e_size]⟩
  have h2 : ((enc l : AV).isVal = true ∧ (enc l : AV).size = (AV.nils 7).size) := ⟨e_isVal _, by rw [e_size]; rfl⟩
  rw [setParts_cons rfl h1.1 h1.2, setParts_cons rfl h2.1 h2.2]; rfl
theorem e_G (o : Int) (m : Arr 6 Int) : AV.agg [.int .i64 o, enc m] = enc (⟨o, m⟩ : Given) := rfl
theorem e_M (w : Arr 5 Int) (n : Int) (l : List Given) : AV.agg [enc w, .int .i64 n, enc l] = enc (⟨w, n, l⟩ : Marks) := rfl
theorem bsG3 (a b c : Given) : bsE 7 (some [enc a, enc b, enc c]) = some (enc [a, b, c]) := (bsE_enc (α := Given) 7 rfl : bsE 7 (some ([a, b, c].map enc)) = _)
theorem stR3_M {A : AState} {n : Nat} {b : AV} {v u : Marks} {rest : List G} : stR3 A (some 7) n [] b (enc v) rest (some (enc u)) = aops rest (A.setO n (.box (enc v))) := by
  rw [stR3_ok (e_isVal _) (by rw [e_okS]; rfl) ((e_sh _).trans (e_sh _).symm), setAt_nil]
theorem e_M0 : AV.agg [enc (a5 0 0 0 0 0), .int .i64 0, .nils 7] = AV.agg [enc (a5 0 0 0 0 0), .int .i64 0, .nils 7] := rfl

theorem F82 : Ctr Try.prog 82 [] (enc bookM) := by
  refine Ctr.mk' Try.func82 ca82 cc82 cr82 (Nat.le_of_ble_eq_true rfl) (fun hwf W0 D0 E1 => ?_)
  simp only [c82, r82, idx, Nat.zero_add, Nat.reduceAdd]
  refine AW.seq (AW.reg cd82_0 fun K hK => ?_)
  simp only [g82_0, bR, Nat.reduceEqDiff, reduceIte, Int.reduceBNe, Int.reduceBEq]
  refine .done (hK _ ?_); clear hK K; simp only [thenQ, blockQ]
  refine AW.seq (AW.reg cd82_1 fun K hK => ?_)
  simp only [g82_1, bR, Nat.reduceEqDiff, reduceIte, Int.reduceBNe, Int.reduceBEq]
  simp only [bld5, bld6, bldG0, bldG, bldM, bsG3, e_a5, e_a6, e_G, e_M, e_fin, bR, Nat.reduceEqDiff, reduceIte, Int.reduceBNe, Int.reduceBEq]
  rw [stR3_ok (e_isVal _) (by rw [e_okS]; rfl) ((e_sh _).trans rfl)]
  simp only [setAt_nil, bR, Nat.reduceEqDiff, reduceIte, Int.reduceBNe, Int.reduceBEq]
  refine .done (hK _ ?_); clear hK K; simp only [thenQ, blockQ]
  refine AW.ret ?_
  simp only [blockQ, thenQ, bR, Nat.reduceEqDiff, reduceIte, Int.reduceBNe, Int.reduceBEq]
  simp only [typR, e_fin, bR, Nat.reduceEqDiff, reduceIte, Int.reduceBNe, Int.reduceBEq]
  rfl

end Go.Proofs.Ytkjkbpgdpnapfaa

/-
  THE ABSTRACT LAYER, 24: a slice of the frame's own, taken as data; a nil slice taken as an empty one. Over any program.
-/
namespace Go.Abs
open Go Go.RowKit
open Enc (enc)

theorem Sub.free {ts : List (Nat × AV)} {os0 : List (Nat × AO)} (ns : List Nat) (d : Nat) {x y : AV} (hd : look ts d = x) (h : fin true (mkA ts (keepO ns os0)) x = some y) (ho : onlyO (fun n => !ns.contains n) (dropO ns os0)) :
    Sub (mkA ts os0) (mkA ((d, y) :: fgt ns ts) (dropO ns os0)) := by
  rintro c a w ⟨D, E, hs⟩
  obtain ⟨D1, E1, hs1, hw⟩ := hs.freeze ns ho
  have hu : Up (mkA ts (keepO ns os0)) (mkA ts os0) := fun n z hz => by
    simp only [mkA, lookO_keep] at hz ⊢
    split at hz
    · exact hz
    · cases hz
  have hx : x.isVal = true := by cases x <;> first | rfl | simp [fin] at h
  have hv := hs.tm d
  simp only [mkA] at hv
  rw [hd] at hv
  have h1 : rvs w D E [x] [a.tmps.getD d undef] := rvs_of [x] _ (.cons hv .nil) (by intro z hz; simp only [List.mem_singleton] at hz; subst hz; exact hx)
  have h2 := fin_rvs (E' := E1) hs hu hw [x] [y] _ h1 (by simp only [fins, h])
  have h3 : rv w D1 E1 y (a.tmps.getD d undef) := by
    simp only [rvs] at h2
    obtain ⟨v', rest, cs, e, k1, k2, _⟩ := h2
    simp only [List.cons.injEq] at e
    obtain ⟨e1, _⟩ := e
    rw [e1]
    exact mk_val k1 k2
  refine ⟨D1, E1, hs1.sz, hs1.defs, fun t => ?_, hs1.unch, hs1.dom, hs1.live, hs1.obj, hs1.sep, hs1.hist, hs1.nam, hs1.up, hs1.yok⟩
  simp only [mkA, look]
  split
  · rename_i ht; subst ht; exact h3
  · exact hs1.tm t

theorem Sub.freeL {ts ts' : List (Nat × AV)} {os0 os' : List (Nat × AO)} (ns : List Nat) (d : Nat) {x y : AV} (hd : look ts d = x) (h : fin true (mkA ts (keepO ns os0)) x = some y) (ho : onlyO (fun n => !ns.contains n) (dropO ns os0))
    (h1 : subT ((d, y) :: fgt ns ts) ts') (h2 : subO (dropO ns os0) os') (h3 : onlyT (isIn os') ts') (h4 : onlyO (isIn os') os') : Sub (mkA ts os0) (mkA ts' os') :=
  (Sub.free ns d hd h ho).trans (Sub.of_lists h1 h2 h3 h4)

/-- A part of the code, walked for itself. -/
theorem AW.via {c : Ctx} {Q : Exit → AState → Prop} {A : AState} {x : AC} (T : AState) (h1 : AW c x (thenQ (fun B => Sub B T) fun _ _ => False) A) (h2 : ∀ B, Sub B T → Q .normal B) : AW c x Q A :=
  h1.mono fun e B hq => by
    cases e <;> simp only [thenQ] at hq <;> first
      | exact h2 B hq
      | exact hq.elim

end Go.Abs

/-
  THE ABSTRACT LAYER, 25: arguments as the statements read them, taken as data. Over any program.
-/
namespace Go.Abs
open Go Go.RowKit
open Enc (enc)

/-- What is there may be read. -/
def allD (w : World) : Dom := fun b _ => b < w.heap.size

/-- What reads as this type is such data. -/
structure Opens (P : Program) (t : TypeId) (α : Type) [Enc α] : Prop where
  cells : P.cellsOf t = Enc.sz α
  pos : 0 < Enc.sz α
  opn : ∀ {H : Type} {enc0 : TypeId × Value → H} {w : World} {fuel : Nat} {cs : List Value} {x : DataW H × List MemPlace}, DataW.trod enc0 P w 0 (fun _ => true) true fuel t cs = some x → ∃ a : α, rc w (allD w) E0 (enc a) cs

theorem opens_int {P : Program} {t : TypeId} (ht : P.underlying t = some (.int .i64)) (hc : P.cellsOf t = 1) : Opens P t Int :=
  ⟨hc, by decide, fun h => by
    obtain ⟨n, rfl, _, hw⟩ := DataW.trod_int ht h
    refine ⟨n, ?_⟩
    rw [e_int, rc]
    simp only [Lit.wf, Bool.and_eq_true, decide_eq_true_eq] at hw
    exact ⟨rfl, hw.1, hw.2⟩⟩

theorem opens_bool {P : Program} {t : TypeId} (ht : P.underlying t = some .bool) (hc : P.cellsOf t = 1) : Opens P t Bool :=
  ⟨hc, by decide, fun h => by
    obtain ⟨b, rfl, _⟩ := DataW.trod_bool ht h
    exact ⟨b, by simp only [e_bool, rc]⟩⟩

theorem chunks {α : Type} [Enc α] {w : World} {D : Dom} (c : Nat) : ∀ (n : Nat) (cs : List Value), cs.length = n * c → (∀ i, i < n → ∃ a : α, rc w D E0 (enc a) ((cs.drop (i * c)).take c)) → ∃ l : List α, l.length = n ∧ rcs w D E0 (l.map enc) cs
  | 0, cs, hl, _ => ⟨[], rfl, by simp only [Nat.zero_mul, List.length_eq_zero_iff] at hl; subst hl; simp [rcs]⟩
  | n + 1, cs, hl, h => by
    obtain ⟨a, ha⟩ := h 0 (by omega)
    simp only [Nat.zero_mul, List.drop_zero] at ha
    obtain ⟨l, h1, h2⟩ := chunks c n (cs.drop c) (by rw [List.length_drop, hl, Nat.succ_mul]; omega) (fun i hi => by
      obtain ⟨b, hb⟩ := h (i + 1) (by omega)
      refine ⟨b, ?_⟩
      rw [List.drop_drop]
      rwa [Nat.succ_mul, Nat.add_comm] at hb)
    refine ⟨a :: l, by simp [h1], ?_⟩
    simp only [List.map_cons, rcs]
    exact ⟨cs.take c, cs.drop c, (List.take_append_drop c cs).symm, ha, h2⟩

theorem trod_arr {H : Type} {enc0 : TypeId × Value → H} {P : Program} {w : World} {base : Nat} {spare : Nat → Bool} {held : Bool} {fuel n : Nat} {t e : TypeId} {cs : List Value} {x : DataW H × List MemPlace} (ht : P.underlying t = some (.array n e)) (h : DataW.trod enc0 P w base spare held fuel t cs = some x) :
    ∃ (xs : List (DataW H × List MemPlace)) (m : Nat), cs.length = P.cellsOf t ∧ xs.length = n ∧ ∀ (i : Nat), i < n → DataW.trod enc0 P w base spare held m e ((cs.drop (i * P.cellsOf e)).take (P.cellsOf e)) = xs[i]? := by
  cases fuel with
  | zero => simp [DataW.trod] at h
  | succ m =>
    unfold DataW.trod at h
    rw [ht] at h
    split at h <;> simp_all
    obtain ⟨hl, xs, hp, hd⟩ := h
    exact ⟨xs, by simpa using mapM_some_length hp, m, fun i hi => mapM_some_get hp i i (by simp [hi])⟩

theorem opens_arr {P : Program} {t e : TypeId} {n : Nat} {α : Type} [Enc α] (ht : P.underlying t = some (.array n e)) (he : Opens P e α) (hc : P.cellsOf t = n * Enc.sz α) (hn : 0 < n) : Opens P t (Arr n α) :=
  ⟨hc, Nat.mul_pos hn he.pos, fun {H enc0 w fuel cs x} h => by
    obtain ⟨xs, m, hl, hx, hp⟩ := trod_arr ht h
    obtain ⟨l, h1, h2⟩ := chunks (α := α) (w := w) (D := allD w) (Enc.sz α) n cs (by rw [hl, hc]) (fun i hi => by
      have h3 := hp i hi
      rw [he.cells, List.getElem?_eq_getElem (by omega)] at h3
      exact he.opn h3)
    refine ⟨⟨l, h1⟩, ?_⟩
    show rc w (allD w) E0 (.agg (l.map enc)) cs
    simp only [rc]
    exact h2⟩

theorem addr_add_add (a : Addr) (i j : Nat) : (a.add i).add j = a.add (i + j) := by
  unfold Addr.add
  by_cases hi : i = 0 <;> by_cases hj : j = 0 <;> simp [hi, hj, Nat.add_assoc]

theorem opens_list {P : Program} {t e : TypeId} {α : Type} [Enc α] (ht : P.underlying t = some (.slice e)) (he : Opens P e α) (hc : P.cellsOf t = 1) : Opens P t (List α) :=
  ⟨hc, by rw [e_szList]; exact Nat.one_pos, fun {H enc0 w fuel cs x} h => by
    rcases DataW.trod_slice ht h with ⟨rfl, _⟩ | ⟨a, len, cap, elems, rest, n, _, rfl, _, hb, hl, hm, hlen, hel, _⟩
    · refine ⟨[], ?_⟩
      simp only [e_list, List.map_nil]
      rw [rc]
      exact ⟨none, 0, rfl, Nat.le_refl _, by decide, .inl rfl, by simp⟩
    · have key : ∀ k, k ≤ len → ∃ (l : List α) (cs' : List Value), l.length = k ∧ rcs w (allD w) E0 (l.map enc) cs' ∧ cs'.length = k * Enc.sz α ∧ ∀ j v, cs'[j]? = some v → w.cell? (a.add j) = some v := by
        intro k
        induction k with
        | zero => exact fun _ => ⟨[], [], rfl, by simp [rcs], by simp, by simp⟩
        | succ k ih =>
          intro hk
          obtain ⟨l, cs', h1, h2, h3, h4⟩ := ih (by omega)
          have h5 := hel k (by omega)
          have h6 : k < elems.length := by omega
          rw [List.getElem?_eq_getElem h6] at h5
          obtain ⟨ce, h7, h8⟩ := Option.bind_eq_some_iff.1 h5
          obtain ⟨y, hy⟩ := he.opn h8
          rw [he.cells] at h7
          obtain ⟨_, h9, h10⟩ := World.cells?_some h7
          refine ⟨l ++ [y], cs' ++ ce, by simp [h1], ?_, by rw [List.length_append, h3, h9, Nat.succ_mul], fun j v hj => ?_⟩
          · rw [List.map_append]
            refine rcs_append _ _ _ _ h2 ?_
            simp only [List.map_cons, List.map_nil, rcs]
            exact ⟨ce, [], by simp, hy, rfl⟩
          · rcases Nat.lt_or_ge j cs'.length with hlt | hge
            · rw [List.getElem?_append_left hlt] at hj
              exact h4 j v hj
            · rw [List.getElem?_append_right hge] at hj
              have hlt : j - cs'.length < Enc.sz α := by
                have := (List.getElem?_eq_some_iff.1 hj).1
                omega
              have := h10 (j - cs'.length) hlt
              rw [addr_add_add, ← h3, Nat.add_sub_cancel' hge] at this
              rw [this]; exact hj
      obtain ⟨l, cs', h1, h2, h3, h4⟩ := key len (Nat.le_refl _)
      refine ⟨l, ?_⟩
      simp only [e_list, rc, List.length_map]
      refine ⟨some a, cap, by rw [h1], by omega, hm, ?_, all_sizes l⟩
      by_cases hz : len = 0
      · left; have : l = [] := List.length_eq_zero_iff.1 (by omega); rw [this]; rfl
      right
      have hpos : 0 < cs'.length := by rw [h3]; exact Nat.mul_pos (Nat.pos_of_ne_zero hz) he.pos
      have h0 := h4 0 cs'[0] (List.getElem?_eq_getElem hpos)
      have hsp : a.spot = none := by
        simp only [Addr.add, if_true] at h0
        unfold World.cell? at h0
        split at h0
        · split at h0
          · cases h0
          · rename_i hs; cases hh : a.spot <;> simp_all
        · cases h0
      have ha : ∀ j, a.add j = ⟨a.block, a.off + j, none⟩ := fun j => by
        unfold Addr.add
        split
        · rename_i hj; subst hj; cases a; simp_all
        · rfl
      refine ⟨a.block, a.off, cs', by cases a; simp_all, fun j v hj => ?_, h2⟩
      have h5 := h4 j v hj
      rw [ha] at h5
      refine ⟨h5, ?_⟩
      show (⟨a.block, a.off + j, none⟩ : Addr).block < _
      exact World.block_lt_of_cell? w _ h5⟩

end Go.Abs

/-
  THE ABSTRACT LAYER, 26: structs among the arguments; from a law's contract to what a statement asks of it. Over any program.
-/
namespace Go.Abs
open Go Go.RowKit Go.ChangeShapes
open Enc (enc)

/-- The type is a struct with fields of these types at these places. -/
def isSt (P : Program) (t : TypeId) (l : List (TypeId × Nat)) : Bool := match P.underlying t with
  | some (.struct fs) => fs.toList.map (fun f => (f.type, f.offset)) == l
  | _ => false
def isAr (P : Program) (t : TypeId) (n : Nat) (e : TypeId) : Bool := match P.underlying t with
  | some (.array n' e') => n' == n && e' == e
  | _ => false
theorem isAr_spec {P : Program} {t : TypeId} {n : Nat} {e : TypeId} (h : isAr P t n e = true) : P.underlying t = some (.array n e) := by
  unfold isAr at h
  split at h
  · rename_i n' e' ht
    simp only [Bool.and_eq_true, beq_iff_eq] at h
    rw [ht, h.1, h.2]
  · cases h
theorem isSt_spec {P : Program} {t : TypeId} {l : List (TypeId × Nat)} (h : isSt P t l = true) : ∃ fs, P.underlying t = some (.struct fs) ∧ fs.toList.map (fun f => (f.type, f.offset)) = l := by
  unfold isSt at h
  split at h
  · rename_i fs ht
    exact ⟨fs, ht, by simpa using h⟩
  · cases h

theorem st_fields {H : Type} {enc0 : TypeId × Value → H} {P : Program} {w : World} {fuel : Nat} {t : TypeId} {l : List (TypeId × Nat)} {cs : List Value} {x : DataW H × List MemPlace} (ht : isSt P t l = true) (h : DataW.trod enc0 P w 0 (fun _ => true) true fuel t cs = some x) :
    cs.length = P.cellsOf t ∧ ∃ m : Nat, ∀ (i : Nat) (u : TypeId) (o : Nat), l[i]? = some (u, o) → ∃ y, DataW.trod enc0 P w 0 (fun _ => true) true m u ((cs.drop o).take (P.cellsOf u)) = some y := by
  obtain ⟨fs, h1, h2⟩ := isSt_spec ht
  obtain ⟨xs, m, _, _, h3, h4, h5⟩ := DataW.trod_struct h1 h
  refine ⟨h3, m, fun i u o hi => ?_⟩
  rw [← h2] at hi
  simp only [List.getElem?_map, Option.map_eq_some_iff, Prod.mk.injEq] at hi
  obtain ⟨f, hf, rfl, rfl⟩ := hi
  have hf' : fs[i]? = some f := by simpa using hf
  have h6 := h5 i f hf'
  have hlt : i < fs.size := (Array.getElem?_eq_some_iff.1 hf').1
  rw [List.getElem?_eq_getElem (by omega)] at h6
  exact ⟨_, h6⟩

section
variable {P : Program} {t : TypeId} {α β γ : Type} [Enc α] [Enc β] [Enc γ] {H : Type} {enc0 : TypeId × Value → H} {w : World} {fuel : Nat} {cs : List Value} {x : DataW H × List MemPlace}

theorem opens_st2 {u0 u1 : TypeId} (ht : isSt P t [(u0, 0), (u1, Enc.sz α)] = true) (h0 : Opens P u0 α) (h1 : Opens P u1 β) (hc : P.cellsOf t = Enc.sz α + Enc.sz β) (h : DataW.trod enc0 P w 0 (fun _ => true) true fuel t cs = some x) :
    ∃ (a : α) (b : β), rc w (allD w) E0 (.agg [enc a, enc b]) cs := by
  obtain ⟨hl, m, hf⟩ := st_fields ht h
  obtain ⟨y0, k0⟩ := hf 0 u0 0 rfl
  obtain ⟨y1, k1⟩ := hf 1 u1 (Enc.sz α) rfl
  obtain ⟨a, ha⟩ := h0.opn k0
  obtain ⟨b, hb⟩ := h1.opn k1
  rw [h0.cells, List.drop_zero] at ha
  rw [h1.cells, List.take_of_length_le (by rw [List.length_drop]; omega)] at hb
  refine ⟨a, b, ?_⟩
  simp only [rc, rcs]
  exact ⟨_, _, (List.take_append_drop (Enc.sz α) cs).symm, ha, cs.drop (Enc.sz α), [], by simp, hb, rfl⟩

theorem opens_st3 {u0 u1 u2 : TypeId} (ht : isSt P t [(u0, 0), (u1, Enc.sz α), (u2, Enc.sz α + Enc.sz β)] = true) (h0 : Opens P u0 α) (h1 : Opens P u1 β) (h2 : Opens P u2 γ) (hc : P.cellsOf t = Enc.sz α + Enc.sz β + Enc.sz γ) (h : DataW.trod enc0 P w 0 (fun _ => true) true fuel t cs = some x) :
    ∃ (a : α) (b : β) (c : γ), rc w (allD w) E0 (.agg [enc a, enc b, enc c]) cs := by
  obtain ⟨hl, m, hf⟩ := st_fields ht h
  obtain ⟨y0, k0⟩ := hf 0 u0 0 rfl
  obtain ⟨y1, k1⟩ := hf 1 u1 (Enc.sz α) rfl
  obtain ⟨y2, k2⟩ := hf 2 u2 (Enc.sz α + Enc.sz β) rfl
  obtain ⟨a, ha⟩ := h0.opn k0
  obtain ⟨b, hb⟩ := h1.opn k1
  obtain ⟨c, hcc⟩ := h2.opn k2
  rw [h0.cells, List.drop_zero] at ha
  rw [h1.cells] at hb
  rw [h2.cells, List.take_of_length_le (by rw [List.length_drop]; omega)] at hcc
  refine ⟨a, b, c, ?_⟩
  simp only [rc, rcs]
  refine ⟨_, _, (List.take_append_drop (Enc.sz α) cs).symm, ha, (cs.drop (Enc.sz α)).take (Enc.sz β), (cs.drop (Enc.sz α)).drop (Enc.sz β), (List.take_append_drop _ _).symm, hb, (cs.drop (Enc.sz α)).drop (Enc.sz β), [], by simp, ?_, rfl⟩
  rw [List.drop_drop]; exact hcc

/-- An argument that is a struct or an array. -/
theorem open_arg {base : Nat} {v : Value} {d : DataW H} {p : List MemPlace} (ho : Opens P t α) (hA : Enc.isA α = true) (hst : (match P.underlying t with | some (.struct _) | some (.array _ _) => true | _ => false) = true) (hv : Value.okWide P w .any base t v)
    (h : DataW.Trod enc0 P w 0 (fun _ => true) true t v d p) : ∃ (a : α) (cs : List Value), isPack (enc a) v cs ∧ rc w (allD w) E0 (enc a) cs := by
  obtain ⟨fuel, h⟩ := h
  have hagg : ∃ cs, v = .agg cs := by
    unfold Value.okWide at hv
    split at hst
    · rename_i fs ht; rw [ht] at hv; obtain ⟨cs, h1, _⟩ := hv; exact ⟨cs, h1⟩
    · rename_i n e ht; rw [ht] at hv; obtain ⟨cs, h1, _⟩ := hv; exact ⟨cs, h1⟩
    · cases hst
  obtain ⟨cs, rfl⟩ := hagg
  have e : (Value.agg cs).cells.toList = cs.toList := rfl
  rw [e] at h
  obtain ⟨a, ha⟩ := ho.opn h
  exact ⟨a, cs.toList, by simp [isPack, Enc.agg, hA], ha⟩

/-- An argument that is one cell. -/
theorem open_cell {base : Nat} {v : Value} {d : DataW H} {p : List MemPlace} (ho : Opens P t α) (hA : Enc.isA α = false) (hst : (match P.underlying t with | some (.slice _) | some (.int _) | some .bool => true | _ => false) = true) (hv : Value.okWide P w .any base t v)
    (h : DataW.Trod enc0 P w 0 (fun _ => true) true t v d p) : ∃ (a : α) (cs : List Value), isPack (enc a) v cs ∧ rc w (allD w) E0 (enc a) cs := by
  obtain ⟨fuel, h⟩ := h
  have hone : v.cells.toList = [v] := by
    unfold Value.okWide at hv
    split at hst
    · rename_i e ht; rw [ht] at hv; simp only [Cell.okWide, ht] at hv; cases v <;> simp_all [Cell.ok, Value.cells]
    · rename_i e ht; rw [ht] at hv; simp only [Cell.okWide, ht] at hv; cases v <;> simp_all [Cell.ok, Value.cells]
    · rename_i ht; rw [ht] at hv; simp only [Cell.okWide, ht] at hv; cases v <;> simp_all [Cell.ok, Value.cells]
    · cases hst
  rw [hone] at h
  obtain ⟨a, ha⟩ := ho.opn h
  exact ⟨a, [v], by simp [isPack, Enc.agg, hA], ha⟩
end

/-- As the kit's law of what is as it was, with less asked of what is frozen: of the places that were read. -/
theorem post_same {H : Type} {enc0 : TypeId × Value → H} {P : Program} {f : Func} {s : ChangeSpec} {apart fresh handsOn again : Bool} {W W' : World} {args : Array Value} {v : Value} {ds gs : List (DataW H)} {before pa pv : List MemPlace}
    (hW : DataW.Whole enc0 P f.params.toList s.vars apart W args.toList ds gs before)
    (hres : ∀ (b : Nat) (sp : Nat → Bool) (hd : Bool), DataW.TrodAll enc0 P W' b sp hd f.resultTypes.toList (v.resultList f.resultTypes.size) (s.fn H (ds ++ gs)).results [])
    (hargs : ∀ sp : Nat → Bool, (∀ p ∈ before, sp p.block = true) → DataW.TrodAll enc0 P W' 0 sp true f.params.toList args.toList (s.fn H (ds ++ gs)).args pa)
    (hvars : ∀ sp : Nat → Bool, (∀ p ∈ before, sp p.block = true) → DataW.TrodVars enc0 P W' sp s.vars (s.fn H (ds ++ gs)).vars pv)
    (hps : before = pa ++ pv) (hb : Below W.heap.size W W')
    (hok : ∀ (j : Nat) (t : TypeId) (r : Value), f.resultTypes[j]? = some t → (v.resultList f.resultTypes.size)[j]? = some r → Value.okWide P W' .any 0 t r) :
    s.post enc0 P f apart fresh handsOn again W args v W' := by
  have hlt : ∀ p ∈ before, p.block < W.heap.size := fun p hp => by simpa using hW.lt p hp
  have hold : ∀ p ∈ before, (fun b => decide (b < W.heap.size)) p.block = true := fun p hp => by simpa using hlt p hp
  refine ⟨ds, gs, before, [], pa, pv, hW, hres _ _ _, hargs _ hold, hvars _ hold, World.keptBut_mono (fun p hp => ⟨hp, ?_⟩) (hb.frame (· ∈ before)), fun _ => ?_⟩
  · rw [hps, List.mem_append] at hp
    exact Or.inr hp
  · obtain ⟨_, _, _, _, _, hz, hn⟩ := hW
    refine ⟨hok, _, _, ([] ++ pa) ++ pv, ⟨[] ++ pa, pv, trodAll_append (hargs _ (fun _ _ => rfl)) (hres _ _ _), hvars _ (fun _ _ => rfl), rfl, ?_, ?_⟩, ?_⟩
    · intro b off hp
      have hp' : MemPlace.cell b off ∈ before := by rw [hps]; simpa using hp
      rw [hb.frozen (p := ⟨b, off, none⟩) (hlt _ hp')]
      exact hz b off hp'
    · intro ha
      have := hn ha
      rw [hps] at this
      simpa using this
    · intro p hp _
      rw [hps]
      simpa using hp

/-- **From a law's contract to what its statement asks of a call.** -/
theorem law_post {P : Program} {f : FuncId} {fn : Func} {s : ChangeSpec} {H : Type} {enc0 : TypeId × Value → H} {W : World} {ds gs : List (DataW H)} {before : List MemPlace} {xs : List AV} {tb : TypeId} {v0 v1 v2 : Value} {t0 t1 t2 : TypeId} {d0 d1 d2 : DataW H} {p0 p1 p2 : List MemPlace} {again handsOn fresh : Bool}
    (hl : laidOutB P = true) (hpar : fn.params.toList = [t0, t1, t2]) (hds : ds = [d0, d1, d2]) (hgs : gs = []) (hbef : before = p0 ++ p1 ++ p2)
    (hvars : s.vars = []) (hfn : s.fn H [d0, d1, d2] = { results := [.lit (.bool true)], args := [d0, d1, d2] }) (hres : fn.resultTypes = #[tb]) (htb : P.underlying tb = some .bool)
    (hW : DataW.Whole enc0 P fn.params.toList s.vars false W #[v0, v1, v2].toList ds gs before)
    (h0 : DataW.Trod enc0 P W 0 (fun _ => true) true t0 v0 d0 p0) (h1 : DataW.Trod enc0 P W 0 (fun _ => true) true t1 v1 d1 p1) (h2 : DataW.Trod enc0 P W 0 (fun _ => true) true t2 v2 d2 p2)
    (hr : ∀ t ∈ [t0, t1, t2], P.readableRec t = true ∧ t < P.types.size)
    (hctr : Ctr P f xs (enc true)) (hv : rvs W (allD W) E0 xs [v0, v1, v2]) :
    Calls P f #[v0, v1, v2] W fun e W' => ∃ v, e = .returned v ∧ s.post enc0 P fn false fresh handsOn again W #[v0, v1, v2] v W' := by
  subst hds hgs
  refine (hctr.2 W (allD W) [v0, v1, v2] (fun _ _ h => h) hv).mono fun e W' ⟨v, D', he, hrv, hb, _, _⟩ => ⟨v, he, ?_⟩
  have hvb : v = .bool true := rv_bool hrv
  subst hvb
  have hlt : ∀ x ∈ before, x.block < W.heap.size := fun x hx => by simpa using hW.lt x hx
  rw [hbef] at hlt
  refine post_same (pa := p0 ++ (p1 ++ p2)) (pv := []) hW (fun _ _ _ => ?_) (fun sp hsp => ?_) (fun _ _ => ?_) (by rw [hbef]; simp) hb ?_
  · simp only [List.append_nil, hfn, hres]
    exact trodAll_mk1 (shut_bool htb true)
  · simp only [List.append_nil, hfn, hpar]
    rw [hbef] at hsp
    have st : ∀ {t : TypeId} {v : Value} {d : DataW H} {p : List MemPlace}, t ∈ [t0, t1, t2] → DataW.Trod enc0 P W 0 (fun _ => true) true t v d p → (∀ x ∈ p, x ∈ p0 ++ p1 ++ p2) → DataW.Trod enc0 P W' 0 sp true t v d p := fun ht h hp =>
      WideElems.Trod_stays hl (hr _ ht).1 (hr _ ht).2 h (fun x hx => hb.same (hlt x (hp x hx))) (fun x hx => hsp x (hp x hx))
    exact trodAll_mk3 (st (by simp) h0 fun x hx => by simp [hx]) (st (by simp) h1 fun x hx => by simp [hx]) (st (by simp) h2 fun x hx => by simp [hx])
  · simp only [List.append_nil, hfn, hvars]
    rfl
  · intro j t r hj hv'
    rw [hres] at hj hv'
    match j, hj, hv' with
    | 0, hj, hv' =>
      simp [Value.resultList] at hj hv'
      subst hj; subst hv'
      simp [Value.okWide, htb, Cell.okWide, Cell.ok]

end Go.Abs

/-
  THE LAWS' ARGUMENTS, TAKEN AS DATA: the types of the statements.
-/
namespace Go.Proofs.Ytkjkbpgdpnapfaa
open Go Go.Abs Go.ChangeShapes Go.WideShapes Go.RowKit
open Go.Abs.Enc (enc)

theorem Try.own : ownKnob Try.prog.godebug = none := by kernel_rfl
theorem Try.laidOut : laidOutB Try.prog = true := by kernel_rfl

theorem oInt : Opens Try.prog 3 Int := opens_int (by kernel_rfl) (by kernel_rfl)
theorem oInts : Opens Try.prog 29 (List Int) := opens_list (by kernel_rfl) oInt (by kernel_rfl)
theorem oWear : Opens Try.prog 23 (Arr 5 Int) := opens_arr (isAr_spec (by kernel_rfl)) oInt (by kernel_rfl) (by decide)
theorem oReading : Opens Try.prog 28 (Arr 6 Int) := opens_arr (isAr_spec (by kernel_rfl)) oInt (by kernel_rfl) (by decide)
theorem oMark : Opens Try.prog 41 (Arr 6 Int) := opens_arr (isAr_spec (by kernel_rfl)) oInt (by kernel_rfl) (by decide)
theorem oGiven : Opens Try.prog 43 Given := ⟨by kernel_rfl, by decide, fun h => by
  obtain ⟨a, b, hab⟩ := opens_st2 (α := Int) (β := Arr 6 Int) (u0 := 3) (u1 := 41) (by kernel_rfl) oInt oMark (by kernel_rfl) h
  exact ⟨⟨a, b⟩, hab⟩⟩
theorem oGivens : Opens Try.prog 24 (List Given) := opens_list (by kernel_rfl) oGiven (by kernel_rfl)
theorem oMarks : Opens Try.prog 26 Marks := ⟨by kernel_rfl, by decide, fun h => by
  obtain ⟨a, b, c, hab⟩ := opens_st3 (α := Arr 5 Int) (β := Int) (γ := List Given) (u0 := 23) (u1 := 3) (u2 := 24) (by kernel_rfl) oWear oInt oGivens (by kernel_rfl) h
  exact ⟨⟨a, b, c⟩, hab⟩⟩

theorem oReadings : Opens Try.prog 53 (List (Arr 6 Int)) := opens_list (by kernel_rfl) oReading (by kernel_rfl)

theorem rvs3 {w : World} {D : Dom} {E : Env} {x y z : AV} {a b c : Value} (hx : ∃ cs, isPack x a cs ∧ rc w D E x cs) (hy : ∃ cs, isPack y b cs ∧ rc w D E y cs) (hz : ∃ cs, isPack z c cs ∧ rc w D E z cs) : rvs w D E [x, y, z] [a, b, c] := by
  obtain ⟨c1, h1, h2⟩ := hx
  obtain ⟨c2, h3, h4⟩ := hy
  obtain ⟨c3, h5, h6⟩ := hz
  simp only [rvs]
  exact ⟨a, [b, c], c1, rfl, h1, h2, b, [c], c2, rfl, h3, h4, c, [], c3, rfl, h5, h6, rfl⟩

end Go.Proofs.Ytkjkbpgdpnapfaa

/-
  FUNCTIONS OF mark BY CONTRACT: settles.
-/
namespace Go.Proofs.Ytkjkbpgdpnapfaa
open Go Go.Abs
open Go.Abs.Enc (enc)

def gl (l : List Given) (i : Nat) : Given := l.getD i g0
theorem isE_gl {A : AState} {l : List Given} {i : Nat} (h : i < l.length) : isE A 7 (i : Int) (enc l) = some (.ref (enc (gl l i))) := by
  rw [isE_nat 7 h rfl]; simp [gl, List.getD_eq_getElem?_getD, h]
theorem gl_eq {l : List Given} {i : Nat} (h : i < l.length) : l[i] = gl l i := by simp [gl, List.getD_eq_getElem?_getD, h]
theorem gl_take {l : List Given} {i j : Nat} (h : j < i) (hi : i ≤ l.length) : gl (l.take i) j = gl l j := by
  simp [gl, List.getD_eq_getElem?_getD, List.getElem?_take, h]

/-- At these places any two of the given marks stand apart. -/
def apartIn (w : Arr 5 Int) (places : List Int) (g h : Given) : Bool := places.any fun k => apartAt w g.mark h.mark k.toNat
def settledAt (w : Arr 5 Int) (l : List Given) (places : List Int) (i : Nat) : Bool := (List.range i).all fun j => apartIn w places (gl l i) (gl l j)
def settled (w : Arr 5 Int) (l : List Given) (places : List Int) : Bool := (List.range l.length).all (settledAt w l places)

theorem F67 (w : Arr 5 Int) (l : List Given) (places : List Int) (hl : ∀ g ∈ l, okMark g.mark = true) (hp : ∀ k ∈ places, 0 ≤ k ∧ k < 6) : Ctr Try.prog 67 [enc w, enc l, enc places] (enc (settled w l places)) := by
  refine Ctr.mk' Try.func67 ca67 cc67 cr67 (Nat.le_of_ble_eq_true rfl) (fun hwf W0 D0 E1 => ?_)
  simp only [c67, r67, idx, Nat.zero_add, Nat.reduceAdd]
  have hlen : l.length ≤ maxLen := ((wf_list l).1 hwf.2.1).1
  simp only [maxLen] at hlen
  have hok : ∀ i, i < l.length → okMark (gl l i).mark = true := fun i hi => by rw [← gl_eq hi]; exact hl _ (List.getElem_mem hi)
  refine AW.seq (AW.reg cd67_0 fun K hK => ?_)
  simp only [g67_0, bR, Nat.reduceEqDiff, reduceIte, Int.reduceBNe, Int.reduceBEq]
  refine .done (hK _ ?_); clear hK K; simp only [thenQ, blockQ]
  refine AW.seq ?_
  refine AW.seq (AW.reg cd67_1 fun K hK => ?_)
  simp only [g67_1, bR, Nat.reduceEqDiff, reduceIte, Int.reduceBNe, Int.reduceBEq]
  try simp only [typR, useR, okR, e_fin, bR, Nat.reduceEqDiff, reduceIte, Int.reduceBNe, Int.reduceBEq]
  refine .done (hK _ ?_); clear hK K; simp only [thenQ, blockQ]
  refine AW.block (AW.loop (fun i : Nat => mkA [(1, enc l), (2, enc places), (3, .ptr 3 []), (11, enc l), (12, .int .i64 l.length), (13, .int .i64 i)] [(3, .box (enc w))]) (fun i => i ≤ l.length ∧ ∀ j, j < i → settledAt w l places j = true) (fun i => l.length - i) 0 ⟨by omega, fun k h => by omega⟩ ?_ (fun i hi => ?_))
  · refine Sub.of_lists ?_ ?_ ?_ ?_ <;> simp [subT, subO, onlyT, onlyO, isIn, look_cons, lookO_cons, lookO_nil, AV.only, AV.onlys, AO.only, onlys_map, onlys_append, e_only, e_int, e_bool]
  refine AW.seq (AW.reg cd67_2 fun K hK => ?_)
  simp only [g67_2, bR, Nat.reduceEqDiff, reduceIte, Int.reduceBNe, Int.reduceBEq]
  refine .done (hK _ ?_); clear hK K; simp only [thenQ, blockQ]
  refine AW.seq ?_
  refine AW.ite ?_
  simp only [condQ, bR, Nat.reduceEqDiff, reduceIte, Int.reduceBNe, Int.reduceBEq]
  refine ⟨fun h => ?_, fun h => ?_⟩
  case refine_2.refine_2 =>
    have hge : i = l.length := by simp at h; omega
    subst hge
    refine AW.exit ?_; simp only [thenQ, blockQ, reduceIte, Nat.reduceEqDiff]
    refine AW.seq (AW.reg cd67_11 fun K hK => ?_)
    simp only [g67_11, bR, Nat.reduceEqDiff, reduceIte, Int.reduceBNe, Int.reduceBEq]
    refine .done (hK _ ?_); clear hK K; simp only [thenQ, blockQ]
    refine AW.ret ?_
    simp only [blockQ, thenQ, bR, Nat.reduceEqDiff, reduceIte, Int.reduceBNe, Int.reduceBEq]
    rw [settled, all_true hi.2]
  have hlt : i < l.length := by simpa using h
  have bad : settledAt w l places i = false → settled w l places = false := fun h => all_false i hlt h
  refine AW.skip ?_; simp only [thenQ, blockQ, reduceIte, Nat.reduceEqDiff]
  refine AW.seq (AW.block ?_)
  refine AW.seq (AW.reg cd67_3 fun K hK => ?_)
  simp only [g67_3, bR, Nat.reduceEqDiff, reduceIte, Int.reduceBNe, Int.reduceBEq]
  simp only [typR, useR, okR, isE_gl hlt, e_a6, bR, Nat.reduceEqDiff, reduceIte, Int.reduceBNe, Int.reduceBEq]
  rw [stR3_ok (e_isVal _) (by rw [e_okS]; rfl) ((e_sh _).trans rfl)]
  simp only [setAt_nil, bR, Nat.reduceEqDiff, reduceIte, Int.reduceBNe, Int.reduceBEq]
  refine .done (hK _ ?_); clear hK K; simp only [thenQ, blockQ]
  refine AW.seq (AW.reg cd67_4 fun K hK => ?_)
  simp only [g67_4, bR, Nat.reduceEqDiff, reduceIte, Int.reduceBNe, Int.reduceBEq]
  simp only [slE_take (α := Given) 7 (show i ≤ l.length by omega) rfl, Option.map_none, bR, Nat.reduceEqDiff, reduceIte, Int.reduceBNe, Int.reduceBEq]
  try simp only [typR, useR, okR, e_fin, bR, Nat.reduceEqDiff, reduceIte, Int.reduceBNe, Int.reduceBEq]
  refine .done (hK _ ?_); clear hK K; simp only [thenQ, blockQ]
  have hti : (l.take i).length = i := by rw [List.length_take]; omega
  simp only [hti]
  refine AW.block (AW.loop (fun j : Nat => mkA [(1, enc l), (2, enc places), (3, .ptr 3 []), (8, .ptr 8 []), (11, enc l), (12, .int .i64 l.length), (13, .int .i64 i), (20, enc (l.take i)), (21, .int .i64 i), (22, .int .i64 j)] [(3, .box (enc w)), (8, .box (enc (gl l i)))]) (fun j => j ≤ i ∧ ∀ k, k < j → apartIn w places (gl l i) (gl l k) = true) (fun j => i - j) 0 ⟨by omega, fun k h => by omega⟩ ?_ (fun j hj => ?_))
  · refine Sub.of_lists ?_ ?_ ?_ ?_ <;> simp [subT, subO, onlyT, onlyO, isIn, look_cons, lookO_cons, lookO_nil, AV.only, AV.onlys, AO.only, onlys_map, onlys_append, e_only, e_int, e_bool]
  refine AW.seq (AW.reg cd67_5 fun K hK => ?_)
  simp only [g67_5, bR, Nat.reduceEqDiff, reduceIte, Int.reduceBNe, Int.reduceBEq]
  refine .done (hK _ ?_); clear hK K; simp only [thenQ, blockQ]
  refine AW.seq ?_
  refine AW.ite ?_
  simp only [condQ, bR, Nat.reduceEqDiff, reduceIte, Int.reduceBNe, Int.reduceBEq]
  refine ⟨fun h => ?_, fun h => ?_⟩
  case refine_2.refine_2 =>
    have hge : j = i := by simp at h; omega
    subst hge
    refine AW.exit ?_; simp only [thenQ, blockQ, reduceIte, Nat.reduceEqDiff]
    refine AW.reg cd67_10 fun K hK => ?_
    simp only [g67_10, bR, Nat.reduceEqDiff, reduceIte, Int.reduceBNe, Int.reduceBEq]
    refine .done (hK _ ?_); clear hK K; simp only [thenQ, blockQ]
    refine ⟨j + 1, ⟨by omega, fun k hk => ?_⟩, by omega, ?_⟩
    · rcases Nat.lt_or_ge k j with h1 | h1
      · exact hi.2 k h1
      · have : k = j := by omega
        subst this
        exact all_true hj.2
    · rw [wrap_id _ (by omega) (by omega)]
      refine Sub.of_lists ?_ ?_ ?_ ?_ <;> simp [subT, subO, onlyT, onlyO, isIn, look_cons, lookO_cons, lookO_nil, AV.only, AV.onlys, AO.only, onlys_map, onlys_append, e_only, e_int, e_bool]
  have hjl : j < i := by simp at h; omega
  have bad2 : apartIn w places (gl l i) (gl l j) = false → settledAt w l places i = false := fun h => all_false j hjl h
  refine AW.skip ?_; simp only [thenQ, blockQ, reduceIte, Nat.reduceEqDiff]
  refine AW.seq (AW.block ?_)
  refine AW.seq (AW.reg cd67_6 fun K hK => ?_)
  simp only [g67_6, bR, Nat.reduceEqDiff, reduceIte, Int.reduceBNe, Int.reduceBEq]
  try simp only [typR, useR, okR, isE_gl (show j < (l.take i).length by omega), gl_take hjl (show i ≤ l.length by omega), e_a6, bR, Nat.reduceEqDiff, reduceIte, Int.reduceBNe, Int.reduceBEq]
  rw [stR3_ok (e_isVal _) (by rw [e_okS]; rfl) ((e_sh _).trans rfl)]
  simp only [setAt_nil, bR, Nat.reduceEqDiff, reduceIte, Int.reduceBNe, Int.reduceBEq]
  refine .done (hK _ ?_); clear hK K; simp only [thenQ, blockQ]
  refine AW.seq ?_
  refine AW.reg cd67_7 fun K hK => ?_
  simp only [g67_7, bR, Nat.reduceEqDiff, reduceIte, Int.reduceBNe, Int.reduceBEq]
  simp only [List.all_cons, List.all_nil, AV.isVal, Bool.and_true, Bool.and_self, if_true, e_isVal, e_closed, e_fin, bR, Nat.reduceEqDiff, reduceIte, Int.reduceBNe, Int.reduceBEq]
  try simp only [typR, useR, okR, e_fin, bR, Nat.reduceEqDiff, reduceIte, Int.reduceBNe, Int.reduceBEq]
  refine .flat _ (F75 places 107 [.ref (enc w), .ref (enc (gl l i)), .ref (enc (gl l j))] ?_ (fun k => apartAt w (gl l i).mark (gl l j).mark k.toNat) (fun k hk => ?_)) rfl ?_
  · simp [AV.dones, AV.done, Enc.done, e_closed]
  · have hk2 := hp k hk
    have := F107 w (gl l i) (gl l j) k.toNat (by omega) (hok i hlt) (hok j (by omega))
    rwa [show ((k.toNat : Nat) : Int) = k by omega] at this
  try simp only [typR, useR, okR, e_fin, bR, Nat.reduceEqDiff, reduceIte, Int.reduceBNe, Int.reduceBEq]
  refine .done (hK _ ?_); clear hK K; simp only [thenQ, blockQ]
  refine AW.ite ?_
  simp only [condQ, bR, Nat.reduceEqDiff, reduceIte, Int.reduceBNe, Int.reduceBEq]
  refine ⟨fun h => ?_, fun h => ?_⟩
  · refine AW.seq (AW.reg cd67_8 fun K hK => ?_)
    simp only [g67_8, bR, Nat.reduceEqDiff, reduceIte, Int.reduceBNe, Int.reduceBEq]
    refine .done (hK _ ?_); clear hK K; simp only [thenQ, blockQ]
    refine AW.ret ?_
    simp only [blockQ, thenQ, bR, Nat.reduceEqDiff, reduceIte, Int.reduceBNe, Int.reduceBEq]
    have h1 : apartIn w places (gl l i) (gl l j) = false := by simpa [apartIn] using h
    rw [bad (bad2 h1)]
  · refine AW.skip ?_; simp only [thenQ, blockQ, reduceIte, Nat.reduceEqDiff]
    have h1 : apartIn w places (gl l i) (gl l j) = true := by simpa [apartIn] using h
    refine AW.reg cd67_9 fun K hK => ?_
    simp only [g67_9, bR, Nat.reduceEqDiff, reduceIte, Int.reduceBNe, Int.reduceBEq]
    refine .done (hK _ ?_); clear hK K; simp only [thenQ, blockQ]
    refine ⟨j + 1, ⟨by omega, fun k hk => ?_⟩, by omega, ?_⟩
    · rcases Nat.lt_or_ge k j with h2 | h2
      · exact hj.2 k h2
      · have : k = j := by omega
        subst this; exact h1
    · rw [wrap_id _ (by omega) (by omega)]
      refine Sub.of_lists ?_ ?_ ?_ ?_ <;> simp [subT, subO, onlyT, onlyO, isIn, look_cons, lookO_cons, lookO_nil, AV.only, AV.onlys, AO.only, onlys_map, onlys_append, e_only, e_int, e_bool]

end Go.Proofs.Ytkjkbpgdpnapfaa

/-
  FUNCTIONS OF mark BY CONTRACT: Look.
-/
namespace Go.Proofs.Ytkjkbpgdpnapfaa
open Go Go.Abs
open Go.Abs.Enc (enc)

def bitsOf (s : Nat) : Nat → List Int
  | 0 => []
  | i + 1 => bitsOf s i ++ if hasB s i then [(i : Int)] else []
theorem bitsOf_le (s : Nat) : ∀ i, (bitsOf s i).length ≤ i
  | 0 => Nat.le_refl _
  | i + 1 => by
    have := bitsOf_le s i
    simp only [bitsOf, List.length_append]
    split <;> simp <;> omega
theorem bitsOf_in (s : Nat) : ∀ i, i ≤ 6 → ∀ k ∈ bitsOf s i, 0 ≤ k ∧ k < 6
  | 0, _ => by simp [bitsOf]
  | i + 1, h => by
    intro k hk
    simp only [bitsOf, List.mem_append] at hk
    rcases hk with hk | hk
    · exact bitsOf_in s i (by omega) k hk
    · split at hk
      · simp only [List.mem_singleton] at hk; omega
      · cases hk

def better (found : Bool) (best set : List Int) : Bool := (!found || decide ((set.length : Int) < best.length)) || (((set.length : Int) == best.length) && decide (cmpL set best < 0))
def lookStep (w : Arr 5 Int) (poss : List Given) (p : List Int × Bool) (s : Nat) : List Int × Bool := if better p.2 p.1 (bitsOf s 6) && settled w poss (bitsOf s 6) then (bitsOf s 6, true) else p
def lookUp (w : Arr 5 Int) (poss : List Given) : Nat → List Int × Bool
  | 0 => ([], false)
  | s + 1 => lookStep w poss (lookUp w poss s) s
def lookOf (m : Marks) (r : Arr 6 Int) : List Int × Int := if okM m then (if okReading r then ((lookUp m.wear (possG m r) 64).1, 0) else ([], 12)) else ([], 13)

theorem lookUp_le (w : Arr 5 Int) (poss : List Given) : ∀ s, (lookUp w poss s).1.length ≤ 6
  | 0 => by simp [lookUp]
  | s + 1 => by
    have := lookUp_le w poss s
    have h2 := bitsOf_le s 6
    simp only [lookUp, lookStep]
    split
    · exact h2
    · exact this
theorem lookStep_no {w : Arr 5 Int} {poss : List Given} {p : List Int × Bool} {s : Nat} (h : better p.2 p.1 (bitsOf s 6) = false) : lookStep w poss p s = p := by simp [lookStep, h]

theorem possG_mem {m : Marks} {r : Arr 6 Int} {g : Given} (h : g ∈ possG m r) : g ∈ m.given := (List.mem_filter.1 h).1

theorem F12 (m : Marks) (r : Arr 6 Int) : Ctr Try.prog 12 [enc m, enc r] (.tuple [enc (lookOf m r).1, enc (lookOf m r).2]) := by
  refine Ctr.mk' Try.func12 ca12 cc12 cr12 (Nat.le_of_ble_eq_true rfl) (fun hwf W0 D0 E1 => ?_)
  simp only [c12, r12, idx, Nat.zero_add, Nat.reduceAdd]
  refine AW.seq (AW.reg cd12_0 fun K hK => ?_)
  simp only [g12_0, bR, Nat.reduceEqDiff, reduceIte, Int.reduceBNe, Int.reduceBEq]
  simp only [e_isVal, bR, Nat.reduceEqDiff, reduceIte, Int.reduceBNe, Int.reduceBEq]
  refine .done (hK _ ?_); clear hK K; simp only [thenQ, blockQ]
  refine AW.seq ?_
  refine AW.seq (AW.reg cd12_1 fun K hK => ?_)
  simp only [g12_1, bR, Nat.reduceEqDiff, reduceIte, Int.reduceBNe, Int.reduceBEq]
  simp only [typR, useR, okR, e_fin, bR, Nat.reduceEqDiff, reduceIte, Int.reduceBNe, Int.reduceBEq]
  refine .flat _ (F47 m) rfl ?_
  simp only [typR, useR, okR, e_fin, bR, Nat.reduceEqDiff, reduceIte, Int.reduceBNe, Int.reduceBEq]
  refine .flat _ (F45 r) rfl ?_
  simp only [typR, useR, okR, e_fin, bs2, bR, Nat.reduceEqDiff, reduceIte, Int.reduceBNe, Int.reduceBEq]
  refine .flat _ (F64 _) rfl ?_
  rw [first2 _ _ 13 12 (by decide) (by decide)]
  simp only [bR, Nat.reduceEqDiff, reduceIte, Int.reduceBNe, Int.reduceBEq]
  refine .done (hK _ ?_); clear hK K; simp only [thenQ, blockQ]
  generalize hw : okM m = bw
  generalize hr : okReading r = br
  cases bw
  · refine AW.seq (AW.reg cd12_2 fun K hK => ?_)
    simp only [g12_2, bR, Nat.reduceEqDiff, reduceIte, Int.reduceBNe, Int.reduceBEq]
    refine .done (hK _ ?_); clear hK K; simp only [thenQ, blockQ]
    refine AW.ite ?_
    simp only [condQ, bR, Nat.reduceEqDiff, reduceIte, Int.reduceBNe, Int.reduceBEq]
    refine ⟨fun h => ?_, fun h => ?_⟩
    · refine AW.seq (AW.reg cd12_3 fun K hK => ?_)
      simp only [g12_3, bR, Nat.reduceEqDiff, reduceIte, Int.reduceBNe, Int.reduceBEq]
      refine .done (hK _ ?_); clear hK K; simp only [thenQ, blockQ]
      refine AW.ret ?_
      simp only [blockQ, thenQ, bR, Nat.reduceEqDiff, reduceIte, Int.reduceBNe, Int.reduceBEq]
      simp [lookOf, hw, nilInt]
    · cases h
  cases br
  · refine AW.seq (AW.reg cd12_2 fun K hK => ?_)
    simp only [g12_2, bR, Nat.reduceEqDiff, reduceIte, Int.reduceBNe, Int.reduceBEq]
    refine .done (hK _ ?_); clear hK K; simp only [thenQ, blockQ]
    refine AW.ite ?_
    simp only [condQ, bR, Nat.reduceEqDiff, reduceIte, Int.reduceBNe, Int.reduceBEq]
    refine ⟨fun h => ?_, fun h => ?_⟩
    · refine AW.seq (AW.reg cd12_3 fun K hK => ?_)
      simp only [g12_3, bR, Nat.reduceEqDiff, reduceIte, Int.reduceBNe, Int.reduceBEq]
      refine .done (hK _ ?_); clear hK K; simp only [thenQ, blockQ]
      refine AW.ret ?_
      simp only [blockQ, thenQ, bR, Nat.reduceEqDiff, reduceIte, Int.reduceBNe, Int.reduceBEq]
      simp [lookOf, hw, hr, nilInt]
    · cases h
  refine AW.seq (AW.reg cd12_2 fun K hK => ?_)
  simp only [g12_2, bR, Nat.reduceEqDiff, reduceIte, Int.reduceBNe, Int.reduceBEq]
  refine .done (hK _ ?_); clear hK K; simp only [thenQ, blockQ]
  refine AW.ite ?_
  simp only [condQ, bR, Nat.reduceEqDiff, reduceIte, Int.reduceBNe, Int.reduceBEq]
  refine ⟨fun h => ?_, fun h => ?_⟩
  · cases h
  refine AW.skip ?_; simp only [thenQ, blockQ, reduceIte, Nat.reduceEqDiff]
  have hlen : m.given.length ≤ 1000 := by have := okM_len hw; omega
  have hpl : (possG m r).length ≤ 1000 := Nat.le_trans (List.length_filter_le _ _) hlen
  have hpm : ∀ g ∈ possG m r, okMark g.mark = true := fun g hg => okM_mark hw g (possG_mem hg)
  obtain ⟨poss, hposs⟩ : ∃ poss, poss = possG m r := ⟨_, rfl⟩
  -- what follows, from the possible ones on
  have key : ∀ c : Ctx, c = ⟨Try.prog, W0, D0, Try.f12.ntmps, ownE E1, E1, noY, none⟩ → AW c (.seq (.reg d12_5 g12_5) (.seq (.reg d12_6 g12_6) (.seq (.seq (.reg d12_7 g12_7) (.block 0 (.loop (.seq (.reg d12_8 g12_8) (.seq (.cond (.t 27) .skip (.exit 0)) (.seq (.block 1 (.seq (.reg d12_9 g12_9) (.seq (.reg d12_10 g12_10) (.seq (.seq (.reg d12_11 g12_11) (.block 2 (.loop (.seq (.reg d12_12 g12_12) (.seq (.cond (.t 30) .skip (.exit 2)) (.seq (.block 3 (.seq (.reg d12_13 g12_13) (.seq (.reg d12_14 g12_14) (.cond (.t 36) (.reg d12_15 g12_15) .skip)))) (.reg d12_16 g12_16))))))) (.seq (.reg d12_17 g12_17) (.seq (.reg d12_18 g12_18) (.cond (.t 71) (.reg d12_19 g12_19) .skip))))))) (.reg d12_20 g12_20))))))) (.seq (.reg d12_21 g12_21) .ret))))
      (retQ [.tmp 4, .tmp 5] (.tuple [enc (lookOf m r).1, enc (lookOf m r).2])) (mkA [(2, .ptr 2 []), (3, .ptr 3 []), (7, enc poss)] [(2, .box (enc m)), (3, .box (enc r))]) := by
    rintro c rfl
    refine AW.seq (AW.reg cd12_5 fun K hK => ?_)
    simp only [g12_5, bR, Nat.reduceEqDiff, reduceIte, Int.reduceBNe, Int.reduceBEq]
    refine .done (hK _ ?_); clear hK K; simp only [thenQ, blockQ]
    refine AW.seq (AW.reg cd12_6 fun K hK => ?_)
    simp only [g12_6, bR, Nat.reduceEqDiff, reduceIte, Int.reduceBNe, Int.reduceBEq]
    refine .done (hK _ ?_); clear hK K; simp only [thenQ, blockQ]
    refine AW.seq ?_
    refine AW.seq (AW.reg cd12_7 fun K hK => ?_)
    simp only [g12_7, bR, Nat.reduceEqDiff, reduceIte, Int.reduceBNe, Int.reduceBEq]
    refine .done (hK _ ?_); clear hK K; simp only [thenQ, blockQ]
    refine AW.block (AW.loop (fun s : Nat => mkA [(2, .ptr 2 []), (3, .ptr 3 []), (7, enc poss), (8, enc (lookUp m.wear poss s).1), (9, .bool (lookUp m.wear poss s).2), (26, .int .i64 s)] [(2, .box (enc m)), (3, .box (enc r))]) (fun s => s ≤ 64) (fun s => 64 - s) 0 (by omega) ?_ (fun s hs => ?_))
    · simp only [lookUp]
      refine Sub.freeL (y := .slice 1 []) [] 8 rfl rfl ?_ ?_ ?_ ?_ ?_
      · simp [dropO, onlyO, AO.only, e_only]
      · simp [subT, fgt, look_cons, AV.only, e_only]; rfl
      · simp [subO, dropO, lookO_cons]
      · simp [onlyT, isIn, lookO_cons, AV.only, e_only]
      · simp [onlyO, AO.only, e_only]
    obtain ⟨best, hbest⟩ : ∃ best, (lookUp m.wear poss s).1 = best := ⟨_, rfl⟩
    obtain ⟨found, hfound⟩ : ∃ found, (lookUp m.wear poss s).2 = found := ⟨_, rfl⟩
    have hlu : lookUp m.wear poss s = (best, found) := by rw [← hbest, ← hfound]
    have hbl : best.length ≤ 6 := by rw [← hbest]; exact lookUp_le _ _ _
    rw [hbest, hfound]
    refine AW.seq (AW.reg cd12_8 fun K hK => ?_)
    simp only [g12_8, bR, Nat.reduceEqDiff, reduceIte, Int.reduceBNe, Int.reduceBEq]
    refine .done (hK _ ?_); clear hK K; simp only [thenQ, blockQ]
    refine AW.seq ?_
    refine AW.ite ?_
    simp only [condQ, bR, Nat.reduceEqDiff, reduceIte, Int.reduceBNe, Int.reduceBEq]
    refine ⟨fun h => ?_, fun h => ?_⟩
    case refine_2.refine_2 =>
      have hge : s = 64 := by simp at h; omega
      subst hge
      refine AW.exit ?_; simp only [thenQ, blockQ, reduceIte, Nat.reduceEqDiff]
      refine AW.seq (AW.reg cd12_21 fun K hK => ?_)
      simp only [g12_21, bR, Nat.reduceEqDiff, reduceIte, Int.reduceBNe, Int.reduceBEq]
      refine .done (hK _ ?_); clear hK K; simp only [thenQ, blockQ]
      refine AW.ret ?_
      simp only [blockQ, thenQ, bR, Nat.reduceEqDiff, reduceIte, Int.reduceBNe, Int.reduceBEq]
      simp only [e_fin, bR, Nat.reduceEqDiff, reduceIte, Int.reduceBNe, Int.reduceBEq]
      simp [lookOf, hw, hr, hlu, ← hposs, e_int]
    have hlt : s < 64 := by simp at h; omega
    refine AW.skip ?_; simp only [thenQ, blockQ, reduceIte, Nat.reduceEqDiff]
    refine AW.seq (AW.block ?_)
    refine AW.seq (AW.reg cd12_9 fun K hK => ?_)
    simp only [g12_9, bR, Nat.reduceEqDiff, reduceIte, Int.reduceBNe, Int.reduceBEq]
    refine .done (hK _ ?_); clear hK K; simp only [thenQ, blockQ]
    refine AW.seq (AW.reg cd12_10 fun K hK => ?_)
    simp only [g12_10, bR, Nat.reduceEqDiff, reduceIte, Int.reduceBNe, Int.reduceBEq]
    refine .done (hK _ ?_); clear hK K; simp only [thenQ, blockQ]
    refine AW.seq ?_
    refine AW.seq (AW.reg cd12_11 fun K hK => ?_)
    simp only [g12_11, bR, Nat.reduceEqDiff, reduceIte, Int.reduceBNe, Int.reduceBEq]
    refine .done (hK _ ?_); clear hK K; simp only [thenQ, blockQ]
    refine AW.block (AW.loop (fun i : Nat => mkA [(2, .ptr 2 []), (3, .ptr 3 []), (7, enc poss), (8, enc best), (9, .bool found), (10, .int .i64 s), (26, .int .i64 s), (11, .own 11 (bitsOf s i).length), (29, .int .i64 i)] [(11, .row 3 1 ((bitsOf s i).map enc)), (2, .box (enc m)), (3, .box (enc r))]) (fun i => i ≤ 6) (fun i => 6 - i) 0 (by omega) ?_ (fun i hi => ?_))
    · refine Sub.adoptL 11 11 3 1 1 ?_ ?_ ?_
      · simp only [absR, Nat.reduceEqDiff, reduceIte]
      · simp only [absR, Nat.reduceEqDiff, reduceIte]
      · simp only [bitsOf, List.map_nil, List.length_nil]
        refine Sub.of_lists ?_ ?_ ?_ ?_ <;> simp [subT, subO, onlyT, onlyO, isIn, look_cons, lookO_cons, lookO_nil, AV.only, AV.onlys, AO.only, onlys_map, onlys_append, e_only, e_int, e_bool]
    refine AW.seq (AW.reg cd12_12 fun K hK => ?_)
    simp only [g12_12, bR, Nat.reduceEqDiff, reduceIte, Int.reduceBNe, Int.reduceBEq]
    refine .done (hK _ ?_); clear hK K; simp only [thenQ, blockQ]
    refine AW.seq ?_
    refine AW.ite ?_
    simp only [condQ, bR, Nat.reduceEqDiff, reduceIte, Int.reduceBNe, Int.reduceBEq]
    refine ⟨fun h => ?_, fun h => ?_⟩
    · have hi6 : i < 6 := by simp at h; omega
      have hml := bitsOf_le s i
      refine AW.skip ?_; simp only [thenQ, blockQ, reduceIte, Nat.reduceEqDiff]
      refine AW.seq (AW.block ?_)
      refine AW.seq (AW.reg cd12_13 fun K hK => ?_)
      simp only [g12_13, bR, Nat.reduceEqDiff, reduceIte, Int.reduceBNe, Int.reduceBEq]
      refine .done (hK _ ?_); clear hK K; simp only [thenQ, blockQ]
      refine AW.seq (AW.reg cd12_14 fun K hK => ?_)
      simp only [g12_14, bR, Nat.reduceEqDiff, reduceIte, Int.reduceBNe, Int.reduceBEq]
      refine .done (hK _ ?_); clear hK K; simp only [thenQ, blockQ]
      refine AW.ite ?_
      simp only [condQ, bR, Nat.reduceEqDiff, reduceIte, Int.reduceBNe, Int.reduceBEq]
      refine ⟨fun h => ?_, fun h => ?_⟩
      · have hb : hasB s i = true := h
        refine AW.reg cd12_15 fun K hK => ?_
        simp only [g12_15, bR, Nat.reduceEqDiff, reduceIte, Int.reduceBNe, Int.reduceBEq]
        rw [appR3_enc 3 1 8 11 rfl rfl (by simp) (by simp [maxLen]; omega) (by simp; omega)]
        simp only [bR, Nat.reduceEqDiff, reduceIte, Int.reduceBNe, Int.reduceBEq]
        refine .done (hK _ ?_); clear hK K; simp only [thenQ, blockQ]
        refine AW.reg cd12_16 fun K hK => ?_
        simp only [g12_16, bR, Nat.reduceEqDiff, reduceIte, Int.reduceBNe, Int.reduceBEq]
        refine .done (hK _ ?_); clear hK K; simp only [thenQ, blockQ]
        refine ⟨i + 1, by omega, by omega, ?_⟩
        rw [wrap_id _ (by omega) (by omega)]
        simp only [bitsOf, hb, reduceIte]
        refine Sub.of_lists ?_ ?_ ?_ ?_ <;> simp [subT, subO, onlyT, onlyO, isIn, look_cons, lookO_cons, lookO_nil, AV.only, AV.onlys, AO.only, onlys_map, onlys_append, e_only, e_int, e_bool]
      · have hb : hasB s i = false := h
        refine AW.skip ?_; simp only [thenQ, blockQ, reduceIte, Nat.reduceEqDiff]
        refine AW.reg cd12_16 fun K hK => ?_
        simp only [g12_16, bR, Nat.reduceEqDiff, reduceIte, Int.reduceBNe, Int.reduceBEq]
        refine .done (hK _ ?_); clear hK K; simp only [thenQ, blockQ]
        refine ⟨i + 1, by omega, by omega, ?_⟩
        rw [wrap_id _ (by omega) (by omega)]
        simp only [bitsOf, hb, reduceIte, Bool.false_eq_true, List.append_nil]
        refine Sub.of_lists ?_ ?_ ?_ ?_ <;> simp [subT, subO, onlyT, onlyO, isIn, look_cons, lookO_cons, lookO_nil, AV.only, AV.onlys, AO.only, onlys_map, onlys_append, e_only, e_int, e_bool]
    have hi6 : i = 6 := by simp at h; omega
    subst hi6
    refine AW.exit ?_; simp only [thenQ, blockQ, reduceIte, Nat.reduceEqDiff]
    have hset := bitsOf_in s 6 (Nat.le_refl _)
    have hsl := bitsOf_le s 6
    have hstep : lookUp m.wear poss (s + 1) = lookStep m.wear poss (best, found) s := by rw [lookUp, hlu]
    obtain ⟨set, hsetd⟩ : ∃ set, bitsOf s 6 = set := ⟨_, rfl⟩
    simp only [lookStep, hsetd] at hstep
    rw [hsetd] at hset hsl ⊢
    refine AW.sub (B := mkA [(2, .ptr 2 []), (3, .ptr 3 []), (7, enc poss), (8, enc best), (9, .bool found), (11, enc set), (26, .int .i64 s)] [(2, .box (enc m)), (3, .box (enc r))]) (Sub.freeL (y := enc set) [11] 11 (by simp only [bR, Nat.reduceEqDiff, reduceIte, Int.reduceBNe, Int.reduceBEq]; rfl) ?_ ?_ ?_ ?_ ?_ ?_) ?_
    · simp only [keepO, List.filter_cons, List.filter_nil, List.contains_cons, List.contains_nil, Nat.reduceBEq, Bool.or_false, Bool.or_true, Bool.true_or, BEq.rfl, bR, Nat.reduceEqDiff, reduceIte, Int.reduceBNe, Int.reduceBEq]
    · simp [dropO, onlyO, AO.only, e_only]
    · simp [subT, fgt, look_cons, AV.only, e_only]
    · simp [subO, dropO, lookO_cons]
    · simp [onlyT, isIn, lookO_cons, AV.only, e_only]
    · simp [onlyO, AO.only, e_only]
    refine AW.seq (AW.via (mkA [(13, .bool (better found best set)), (2, .ptr 2 []), (3, .ptr 3 []), (7, enc poss), (8, enc best), (9, .bool found), (11, enc set), (26, .int .i64 s)] [(2, .box (enc m)), (3, .box (enc r))]) ?_ fun B hB => ?_)
    · refine AW.reg cd12_17 fun K hK => ?_
      simp only [g12_17, bR, Nat.reduceEqDiff, reduceIte, Int.reduceBNe, Int.reduceBEq]
      cases found
      · try simp only [typR, useR, okR, e_fin, bR, Nat.reduceEqDiff, reduceIte, Int.reduceBNe, Int.reduceBEq]
        refine .done (hK _ ?_); clear hK K; simp only [thenQ, blockQ]
        simp only [better, Bool.not_false, Bool.true_or]
        refine Sub.of_lists ?_ ?_ ?_ ?_ <;> simp [subT, subO, onlyT, onlyO, isIn, look_cons, lookO_cons, lookO_nil, AV.only, AV.onlys, AO.only, onlys_map, onlys_append, e_only, e_int, e_bool]
      try simp only [typR, useR, okR, e_fin, bR, Nat.reduceEqDiff, reduceIte, Int.reduceBNe, Int.reduceBEq]
      generalize hb1 : decide ((set.length : Int) < best.length) = b1
      cases b1
      · try simp only [typR, useR, okR, e_fin, bR, Nat.reduceEqDiff, reduceIte, Int.reduceBNe, Int.reduceBEq]
        generalize hb2 : ((set.length : Int) == best.length) = b2
        cases b2
        · try simp only [typR, useR, okR, e_fin, bR, Nat.reduceEqDiff, reduceIte, Int.reduceBNe, Int.reduceBEq]
          refine .done (hK _ ?_); clear hK K; simp only [thenQ, blockQ]
          simp only [better, hb1, hb2, Bool.not_true, Bool.false_or, Bool.or_false, Bool.false_and]
          refine Sub.of_lists ?_ ?_ ?_ ?_ <;> simp [subT, subO, onlyT, onlyO, isIn, look_cons, lookO_cons, lookO_nil, AV.only, AV.onlys, AO.only, onlys_map, onlys_append, e_only, e_int, e_bool]
        try simp only [typR, useR, okR, e_fin, bR, Nat.reduceEqDiff, reduceIte, Int.reduceBNe, Int.reduceBEq]
        refine .flat _ (F66 set best) rfl ?_
        try simp only [typR, useR, okR, e_fin, bR, Nat.reduceEqDiff, reduceIte, Int.reduceBNe, Int.reduceBEq]
        refine .done (hK _ ?_); clear hK K; simp only [thenQ, blockQ]
        simp only [better, hb1, hb2, Bool.not_true, Bool.false_or, Bool.or_false, Bool.true_and]
        refine Sub.of_lists ?_ ?_ ?_ ?_ <;> simp [subT, subO, onlyT, onlyO, isIn, look_cons, lookO_cons, lookO_nil, AV.only, AV.onlys, AO.only, onlys_map, onlys_append, e_only, e_int, e_bool]
      · try simp only [typR, useR, okR, e_fin, bR, Nat.reduceEqDiff, reduceIte, Int.reduceBNe, Int.reduceBEq]
        refine .done (hK _ ?_); clear hK K; simp only [thenQ, blockQ]
        simp only [better, hb1, Bool.not_true, Bool.false_or, Bool.true_or]
        refine Sub.of_lists ?_ ?_ ?_ ?_ <;> simp [subT, subO, onlyT, onlyO, isIn, look_cons, lookO_cons, lookO_nil, AV.only, AV.onlys, AO.only, onlys_map, onlys_append, e_only, e_int, e_bool]
    simp only [thenQ, blockQ]
    refine AW.sub hB ?_
    generalize hbt : better found best set = bt at hstep
    refine AW.seq (AW.reg cd12_18 fun K hK => ?_)
    simp only [g12_18, bR, Nat.reduceEqDiff, reduceIte, Int.reduceBNe, Int.reduceBEq]
    cases bt
    · try simp only [typR, useR, okR, e_fin, bR, Nat.reduceEqDiff, reduceIte, Int.reduceBNe, Int.reduceBEq]
      refine .done (hK _ ?_); clear hK K; simp only [thenQ, blockQ]
      refine AW.ite ?_
      simp only [condQ, bR, Nat.reduceEqDiff, reduceIte, Int.reduceBNe, Int.reduceBEq]
      refine ⟨fun h => ?_, fun h => ?_⟩
      · cases h
      refine AW.skip ?_; simp only [thenQ, blockQ, reduceIte, Nat.reduceEqDiff]
      refine AW.reg cd12_20 fun K hK => ?_
      simp only [g12_20, bR, Nat.reduceEqDiff, reduceIte, Int.reduceBNe, Int.reduceBEq]
      refine .done (hK _ ?_); clear hK K; simp only [thenQ, blockQ]
      refine ⟨s + 1, by omega, by omega, ?_⟩
      rw [hstep, wrap_id _ (by omega) (by omega)]
      simp only [Bool.false_and, Bool.false_eq_true, if_false]
      refine Sub.of_lists ?_ ?_ ?_ ?_ <;> simp [subT, subO, onlyT, onlyO, isIn, look_cons, lookO_cons, lookO_nil, AV.only, AV.onlys, AO.only, onlys_map, onlys_append, e_only, e_int, e_bool]
    · try simp only [typR, useR, okR, e_fin, bR, Nat.reduceEqDiff, reduceIte, Int.reduceBNe, Int.reduceBEq]
      refine .flat _ (F67 m.wear poss set (by rw [hposs]; exact hpm) hset) rfl ?_
      try simp only [typR, useR, okR, e_fin, bR, Nat.reduceEqDiff, reduceIte, Int.reduceBNe, Int.reduceBEq]
      refine .done (hK _ ?_); clear hK K; simp only [thenQ, blockQ]
      refine AW.ite ?_
      simp only [condQ, bR, Nat.reduceEqDiff, reduceIte, Int.reduceBNe, Int.reduceBEq]
      refine ⟨fun h => ?_, fun h => ?_⟩
      · refine AW.reg cd12_19 fun K hK => ?_
        simp only [g12_19, bR, Nat.reduceEqDiff, reduceIte, Int.reduceBNe, Int.reduceBEq]
        refine .done (hK _ ?_); clear hK K; simp only [thenQ, blockQ]
        refine AW.reg cd12_20 fun K hK => ?_
        simp only [g12_20, bR, Nat.reduceEqDiff, reduceIte, Int.reduceBNe, Int.reduceBEq]
        refine .done (hK _ ?_); clear hK K; simp only [thenQ, blockQ]
        refine ⟨s + 1, by omega, by omega, ?_⟩
        rw [hstep, wrap_id _ (by omega) (by omega)]
        have h' : settled m.wear poss set = true := h
        simp only [h', Bool.true_and, if_true]
        refine Sub.of_lists ?_ ?_ ?_ ?_ <;> simp [subT, subO, onlyT, onlyO, isIn, look_cons, lookO_cons, lookO_nil, AV.only, AV.onlys, AO.only, onlys_map, onlys_append, e_only, e_int, e_bool]
      · refine AW.skip ?_; simp only [thenQ, blockQ, reduceIte, Nat.reduceEqDiff]
        refine AW.reg cd12_20 fun K hK => ?_
        simp only [g12_20, bR, Nat.reduceEqDiff, reduceIte, Int.reduceBNe, Int.reduceBEq]
        refine .done (hK _ ?_); clear hK K; simp only [thenQ, blockQ]
        refine ⟨s + 1, by omega, by omega, ?_⟩
        rw [hstep, wrap_id _ (by omega) (by omega)]
        have h' : settled m.wear poss set = false := h
        simp only [h', Bool.true_and, Bool.false_eq_true, if_false]
        refine Sub.of_lists ?_ ?_ ?_ ?_ <;> simp [subT, subO, onlyT, onlyO, isIn, look_cons, lookO_cons, lookO_nil, AV.only, AV.onlys, AO.only, onlys_map, onlys_append, e_only, e_int, e_bool]
  refine AW.seq (AW.reg cd12_4 fun K hK => ?_)
  simp only [g12_4, bR, Nat.reduceEqDiff, reduceIte, Int.reduceBNe, Int.reduceBEq]
  simp only [typR, useR, okR, e_fin, bR, Nat.reduceEqDiff, reduceIte, Int.reduceBNe, Int.reduceBEq]
  refine .obj false [(7, 25)] [] [enc m, enc r] (possPost 7 m r) rfl (F65 m r (okM_mark hw) hlen) Gvn.nil ⟨.inl ⟨(e_ren _ _).symm, e_only _ _, e_isVal _⟩, .inl ⟨(e_ren _ _).symm, e_only _ _, e_isVal _⟩, trivial⟩ ?_ ?_
  · rintro x os' (⟨_, rfl, rfl⟩ | ⟨k, rfl, rfl⟩)
    · exact Bck.nil (fun _ => rfl) (fun h => by cases h)
    · exact Bck.new1 (fun p => map_only p _) (fun h => by cases h) rfl (fun h => by cases h) rfl (by decide)
  · rintro x os' (⟨hp, rfl, rfl⟩ | ⟨k, rfl, rfl⟩)
    · simp only [e_ren, renR, List.nil_append, e_fin, bR, Nat.reduceEqDiff, reduceIte, Int.reduceBNe, Int.reduceBEq]
      refine .done (hK _ ?_); clear hK K; simp only [thenQ, blockQ]
      refine AW.sub ?_ (key _ rfl)
      rw [hposs, hp]
      refine Sub.of_lists ?_ ?_ ?_ ?_ <;> simp [subT, subO, onlyT, onlyO, isIn, look_cons, lookO_cons, lookO_nil, AV.only, AV.onlys, AO.only, onlys_map, onlys_append, e_only, e_int, e_bool]
    · simp only [rowG, renR, rens_map_enc, List.cons_append, List.nil_append, bR, Nat.reduceEqDiff, reduceIte, Int.reduceBNe, Int.reduceBEq]
      refine .done (hK _ ?_); clear hK K; simp only [thenQ, blockQ]
      refine AW.sub (Sub.freeL (y := enc poss) [25] 7 rfl ?_ ?_ ?_ ?_ ?_ ?_) (key _ rfl)
      · simp only [keepO, List.filter_cons, List.filter_nil, List.contains_cons, List.contains_nil, Nat.reduceBEq, Bool.or_false, Bool.or_true, Bool.true_or, BEq.rfl, finV_take (α := Given) (sz := 7) rfl, take_row, hposs, bR, Nat.reduceEqDiff, reduceIte, Int.reduceBNe, Int.reduceBEq]
      · simp [dropO, onlyO, AO.only, e_only]
      · simp [subT, fgt, look_cons, AV.only]
      · simp [subO, dropO, lookO_cons]
      · simp [onlyT, isIn, lookO_cons, AV.only, e_only]
      · simp [onlyO, AO.only, e_only]

end Go.Proofs.Ytkjkbpgdpnapfaa

/-
  FUNCTIONS OF mark BY CONTRACT: Looked.
-/
namespace Go.Proofs.Ytkjkbpgdpnapfaa
open Go Go.Abs
open Go.Abs.Enc (enc)

theorem okPlaces_in {l : List Int} (h : okPlaces l = true) : ∀ k ∈ l, 0 ≤ k ∧ k < 6 := by
  intro k hk
  simp only [okPlaces, List.all_eq_true, List.mem_range] at h
  obtain ⟨i, hi, rfl⟩ := List.getElem_of_mem hk
  have := h i hi
  simp only [placeAt, inR, List.getD_eq_getElem?_getD, List.getElem?_eq_getElem hi, Option.getD_some, Bool.and_eq_true, decide_eq_true_eq] at this
  omega

theorem F76 (m : Marks) (g : Given) (worn : Arr 6 Int) (k : Nat) (hk : k < 6) (hg : okMark g.mark = true) : Ctr Try.prog 76 (enc (k : Int) :: [.ref (enc m), .ref (enc g), .ref (enc worn)]) (enc (band (m.wear.g (g.mark.g k).toNat) (worn.g k) == 0)) := by
  refine Ctr.mk' Try.func76 ca76 cc76 cr76 (Nat.le_of_ble_eq_true rfl) (fun hwf W0 D0 E1 => ?_)
  simp only [c76, r76, idx, Nat.zero_add, Nat.reduceAdd]
  have h1 := okMark_at hg hk
  refine AW.seq (AW.reg cd76_0 fun K hK => ?_)
  simp only [g76_0, bR, Nat.reduceEqDiff, reduceIte, Int.reduceBNe, Int.reduceBEq]
  refine .done (hK _ ?_); clear hK K; simp only [thenQ, blockQ]
  refine AW.seq (AW.reg cd76_1 fun K hK => ?_)
  simp only [g76_1, bR, Nat.reduceEqDiff, reduceIte, Int.reduceBNe, Int.reduceBEq]
  try simp only [typR, useR, okR, e_fin, bR, Nat.reduceEqDiff, reduceIte, Int.reduceBNe, Int.reduceBEq]
  refine .flat _ (F77 m.wear g.mark k hk h1.1 h1.2) rfl ?_
  simp only [typR, useR, okR, inB_nat 1 worn hk rfl, atL_g worn hk, get_g worn hk, bR, Nat.reduceEqDiff, reduceIte, Int.reduceBNe, Int.reduceBEq]
  refine .flat _ (F78 _ _) rfl ?_
  try simp only [typR, useR, okR, e_fin, bR, Nat.reduceEqDiff, reduceIte, Int.reduceBNe, Int.reduceBEq]
  refine .done (hK _ ?_); clear hK K; simp only [thenQ, blockQ]
  refine AW.ret ?_
  simp only [blockQ, thenQ, bR, Nat.reduceEqDiff, reduceIte, Int.reduceBNe, Int.reduceBEq]
  simp only [bne, Bool.not_not]

def clash (w : Arr 5 Int) (worn : Arr 6 Int) (places : List Int) (g : Given) : Bool := places.any fun k => band (w.g (g.mark.g k.toNat).toNat) (worn.g k.toNat) == 0

theorem F74 (m : Marks) (g : Given) (worn : Arr 6 Int) (places : List Int) (hg : okMark g.mark = true) (hp : ∀ k ∈ places, 0 ≤ k ∧ k < 6) : Ctr Try.prog 74 (enc g :: [.ref (enc places), .ref (enc m), .ref (enc worn)]) (enc (clash m.wear worn places g)) := by
  refine Ctr.mk' Try.func74 ca74 cc74 cr74 (Nat.le_of_ble_eq_true rfl) (fun hwf W0 D0 E1 => ?_)
  simp only [c74, r74, idx, Nat.zero_add, Nat.reduceAdd]
  refine AW.seq (AW.reg cd74_0 fun K hK => ?_)
  simp only [g74_0, bR, Nat.reduceEqDiff, reduceIte, Int.reduceBNe, Int.reduceBEq]
  simp only [e_isVal, bR, Nat.reduceEqDiff, reduceIte, Int.reduceBNe, Int.reduceBEq]
  refine .done (hK _ ?_); clear hK K; simp only [thenQ, blockQ]
  refine AW.seq (AW.reg cd74_1 fun K hK => ?_)
  simp only [g74_1, bR, Nat.reduceEqDiff, reduceIte, Int.reduceBNe, Int.reduceBEq]
  try simp only [typR, useR, okR, e_fin, bR, Nat.reduceEqDiff, reduceIte, Int.reduceBNe, Int.reduceBEq]
  try simp only [List.all_cons, List.all_nil, AV.isVal, Bool.and_true, Bool.and_self, if_true, e_isVal, e_closed, e_fin, bR, Nat.reduceEqDiff, reduceIte, Int.reduceBNe, Int.reduceBEq]
  try simp only [typR, useR, okR, e_fin, bR, Nat.reduceEqDiff, reduceIte, Int.reduceBNe, Int.reduceBEq]
  refine .flat _ (F75 places 76 [.ref (enc m), .ref (enc g), .ref (enc worn)] ?_ (fun k => band (m.wear.g (g.mark.g k.toNat).toNat) (worn.g k.toNat) == 0) (fun k hk => ?_)) rfl ?_
  · simp [AV.dones, AV.done, Enc.done, e_closed]
  · have hk2 := hp k hk
    have := F76 m g worn k.toNat (by omega) hg
    rwa [show ((k.toNat : Nat) : Int) = k by omega] at this
  try simp only [typR, useR, okR, e_fin, bR, Nat.reduceEqDiff, reduceIte, Int.reduceBNe, Int.reduceBEq]
  refine .done (hK _ ?_); clear hK K; simp only [thenQ, blockQ]
  refine AW.ret ?_
  simp only [blockQ, thenQ, bR, Nat.reduceEqDiff, reduceIte, Int.reduceBNe, Int.reduceBEq]
  rfl

def lookedG (m : Marks) (r worn : Arr 6 Int) (places : List Int) : List Given := keep (clash m.wear worn places) (possG m r)
def lookedOf (m : Marks) (r worn : Arr 6 Int) (places : List Int) : List Int × Int :=
  if okM m then (if okReading r then (if okReading worn then (if okPlaces places then ((lookedG m r worn places).map (·.owner), 0) else ([], 18)) else ([], 12)) else ([], 12)) else ([], 13)

theorem F14 (m : Marks) (r worn : Arr 6 Int) (places : List Int) : Ctr Try.prog 14 [enc m, enc r, enc worn, enc places] (.tuple [enc (lookedOf m r worn places).1, enc (lookedOf m r worn places).2]) := by
  refine Ctr.mk' Try.func14 ca14 cc14 cr14 (Nat.le_of_ble_eq_true rfl) (fun hwf W0 D0 E1 => ?_)
  simp only [c14, r14, idx, Nat.zero_add, Nat.reduceAdd]
  refine AW.seq (AW.reg cd14_0 fun K hK => ?_)
  simp only [g14_0, bR, Nat.reduceEqDiff, reduceIte, Int.reduceBNe, Int.reduceBEq]
  simp only [e_isVal, bR, Nat.reduceEqDiff, reduceIte, Int.reduceBNe, Int.reduceBEq]
  refine .done (hK _ ?_); clear hK K; simp only [thenQ, blockQ]
  refine AW.seq ?_
  refine AW.seq (AW.reg cd14_1 fun K hK => ?_)
  simp only [g14_1, bR, Nat.reduceEqDiff, reduceIte, Int.reduceBNe, Int.reduceBEq]
  try simp only [typR, useR, okR, e_fin, bR, Nat.reduceEqDiff, reduceIte, Int.reduceBNe, Int.reduceBEq]
  refine .flat _ (F47 m) rfl ?_
  try simp only [typR, useR, okR, e_fin, bR, Nat.reduceEqDiff, reduceIte, Int.reduceBNe, Int.reduceBEq]
  refine .flat _ (F45 r) rfl ?_
  try simp only [typR, useR, okR, e_fin, bR, Nat.reduceEqDiff, reduceIte, Int.reduceBNe, Int.reduceBEq]
  refine .flat _ (F45 worn) rfl ?_
  simp only [typR, useR, okR, e_fin, bs3, bR, Nat.reduceEqDiff, reduceIte, Int.reduceBNe, Int.reduceBEq]
  refine .flat _ (F64 _) rfl ?_
  rw [first3 _ _ _ 13 12 12 (by decide) (by decide) (by decide)]
  simp only [bR, Nat.reduceEqDiff, reduceIte, Int.reduceBNe, Int.reduceBEq]
  refine .done (hK _ ?_); clear hK K; simp only [thenQ, blockQ]
  generalize hw : okM m = bw
  generalize hr : okReading r = br
  generalize hwo : okReading worn = bwo
  cases bw
  · refine AW.seq (AW.reg cd14_2 fun K hK => ?_)
    simp only [g14_2, bR, Nat.reduceEqDiff, reduceIte, Int.reduceBNe, Int.reduceBEq]
    refine .done (hK _ ?_); clear hK K; simp only [thenQ, blockQ]
    refine AW.ite ?_
    simp only [condQ, bR, Nat.reduceEqDiff, reduceIte, Int.reduceBNe, Int.reduceBEq]
    refine ⟨fun h => ?_, fun h => ?_⟩
    · refine AW.seq (AW.reg cd14_3 fun K hK => ?_)
      simp only [g14_3, bR, Nat.reduceEqDiff, reduceIte, Int.reduceBNe, Int.reduceBEq]
      refine .done (hK _ ?_); clear hK K; simp only [thenQ, blockQ]
      refine AW.ret ?_
      simp only [blockQ, thenQ, bR, Nat.reduceEqDiff, reduceIte, Int.reduceBNe, Int.reduceBEq]
      simp [lookedOf, hw, nilInt]
    · cases h
  cases br
  · refine AW.seq (AW.reg cd14_2 fun K hK => ?_)
    simp only [g14_2, bR, Nat.reduceEqDiff, reduceIte, Int.reduceBNe, Int.reduceBEq]
    refine .done (hK _ ?_); clear hK K; simp only [thenQ, blockQ]
    refine AW.ite ?_
    simp only [condQ, bR, Nat.reduceEqDiff, reduceIte, Int.reduceBNe, Int.reduceBEq]
    refine ⟨fun h => ?_, fun h => ?_⟩
    · refine AW.seq (AW.reg cd14_3 fun K hK => ?_)
      simp only [g14_3, bR, Nat.reduceEqDiff, reduceIte, Int.reduceBNe, Int.reduceBEq]
      refine .done (hK _ ?_); clear hK K; simp only [thenQ, blockQ]
      refine AW.ret ?_
      simp only [blockQ, thenQ, bR, Nat.reduceEqDiff, reduceIte, Int.reduceBNe, Int.reduceBEq]
      simp [lookedOf, hw, hr, nilInt]
    · cases h
  cases bwo
  · refine AW.seq (AW.reg cd14_2 fun K hK => ?_)
    simp only [g14_2, bR, Nat.reduceEqDiff, reduceIte, Int.reduceBNe, Int.reduceBEq]
    refine .done (hK _ ?_); clear hK K; simp only [thenQ, blockQ]
    refine AW.ite ?_
    simp only [condQ, bR, Nat.reduceEqDiff, reduceIte, Int.reduceBNe, Int.reduceBEq]
    refine ⟨fun h => ?_, fun h => ?_⟩
    · refine AW.seq (AW.reg cd14_3 fun K hK => ?_)
      simp only [g14_3, bR, Nat.reduceEqDiff, reduceIte, Int.reduceBNe, Int.reduceBEq]
      refine .done (hK _ ?_); clear hK K; simp only [thenQ, blockQ]
      refine AW.ret ?_
      simp only [blockQ, thenQ, bR, Nat.reduceEqDiff, reduceIte, Int.reduceBNe, Int.reduceBEq]
      simp [lookedOf, hw, hr, hwo, nilInt]
    · cases h
  refine AW.seq (AW.reg cd14_2 fun K hK => ?_)
  simp only [g14_2, bR, Nat.reduceEqDiff, reduceIte, Int.reduceBNe, Int.reduceBEq]
  refine .done (hK _ ?_); clear hK K; simp only [thenQ, blockQ]
  refine AW.ite ?_
  simp only [condQ, bR, Nat.reduceEqDiff, reduceIte, Int.reduceBNe, Int.reduceBEq]
  refine ⟨fun h => ?_, fun h => ?_⟩
  · cases h
  refine AW.skip ?_; simp only [thenQ, blockQ, reduceIte, Nat.reduceEqDiff]
  refine AW.seq ?_
  refine AW.seq (AW.reg cd14_4 fun K hK => ?_)
  simp only [g14_4, bR, Nat.reduceEqDiff, reduceIte, Int.reduceBNe, Int.reduceBEq]
  try simp only [typR, useR, okR, e_fin, bR, Nat.reduceEqDiff, reduceIte, Int.reduceBNe, Int.reduceBEq]
  refine .flat _ (F71 places) rfl ?_
  generalize hpl : okPlaces places = bp
  cases bp
  · try simp only [typR, useR, okR, e_fin, bR, Nat.reduceEqDiff, reduceIte, Int.reduceBNe, Int.reduceBEq]
    refine .done (hK _ ?_); clear hK K; simp only [thenQ, blockQ]
    refine AW.ite ?_
    simp only [condQ, bR, Nat.reduceEqDiff, reduceIte, Int.reduceBNe, Int.reduceBEq]
    refine ⟨fun h => ?_, fun h => ?_⟩
    · refine AW.seq (AW.reg cd14_5 fun K hK => ?_)
      simp only [g14_5, bR, Nat.reduceEqDiff, reduceIte, Int.reduceBNe, Int.reduceBEq]
      refine .done (hK _ ?_); clear hK K; simp only [thenQ, blockQ]
      refine AW.ret ?_
      simp only [blockQ, thenQ, bR, Nat.reduceEqDiff, reduceIte, Int.reduceBNe, Int.reduceBEq]
      simp [lookedOf, hw, hr, hwo, hpl, nilInt]
    · cases h
  try simp only [typR, useR, okR, e_fin, bR, Nat.reduceEqDiff, reduceIte, Int.reduceBNe, Int.reduceBEq]
  refine .done (hK _ ?_); clear hK K; simp only [thenQ, blockQ]
  refine AW.ite ?_
  simp only [condQ, bR, Nat.reduceEqDiff, reduceIte, Int.reduceBNe, Int.reduceBEq]
  refine ⟨fun h => ?_, fun h => ?_⟩
  · cases h
  refine AW.skip ?_; simp only [thenQ, blockQ, reduceIte, Nat.reduceEqDiff]
  have hpi := okPlaces_in hpl
  have hlen : m.given.length ≤ 1000 := by have := okM_len hw; omega
  have hps : (possG m r).length ≤ 1000 := Nat.le_trans (List.length_filter_le _ _) hlen
  have hpm : ∀ g ∈ possG m r, okMark g.mark = true := fun g hg => okM_mark hw g (possG_mem hg)
  have hld : (lookedG m r worn places).length ≤ 1000 := Nat.le_trans (List.length_filter_le _ _) hps
  have hd : AV.dones [.ref (enc places), .ref (enc m), .ref (enc worn)] = true := by simp only [AV.dones, AV.done, e_closed, Bool.and_self]
  refine AW.seq (AW.reg cd14_6 fun K hK => ?_)
  simp only [g14_6, bR, Nat.reduceEqDiff, reduceIte, Int.reduceBNe, Int.reduceBEq]
  try simp only [typR, useR, okR, e_fin, bR, Nat.reduceEqDiff, reduceIte, Int.reduceBNe, Int.reduceBEq]
  refine .obj false [(7, 27)] [] [enc m, enc r] (possPost 7 m r) rfl (F65 m r (okM_mark hw) hlen) Gvn.nil ⟨.inl ⟨(e_ren _ _).symm, e_only _ _, e_isVal _⟩, .inl ⟨(e_ren _ _).symm, e_only _ _, e_isVal _⟩, trivial⟩ ?_ ?_
  · rintro x os' (⟨_, rfl, rfl⟩ | ⟨k, rfl, rfl⟩)
    · exact Bck.nil (fun _ => rfl) (fun h => by cases h)
    · exact Bck.new1 (fun p => map_only p _) (fun h => by cases h) rfl (fun h => by cases h) rfl (by decide)
  · rintro x os' (⟨hp, rfl, rfl⟩ | ⟨k, rfl, rfl⟩)
    · have hlk : lookedG m r worn places = [] := by simp [lookedG, keep, hp]
      simp only [e_ren, renR, List.nil_append, e_fin, List.all_cons, List.all_nil, AV.isVal, Bool.and_self, e_closed, bR, Nat.reduceEqDiff, reduceIte, Int.reduceBNe, Int.reduceBEq]
      refine .free [7, 4, 6] (enc ([] : List Given)) rfl (F73n 74 [.ref (enc places), .ref (enc m), .ref (enc worn)] hd) ?_ ?_ ?_
      · simp only [keepO, List.filter_cons, List.filter_nil, List.contains_cons, List.contains_nil, Nat.reduceBEq, Bool.or_false, Bool.or_true, Bool.true_or, Bool.false_or, BEq.rfl, e_closed, e_fin, bR, Nat.reduceEqDiff, reduceIte, Int.reduceBNe, Int.reduceBEq]
      · simp [dropO, onlyO, AO.only, e_only]
      · simp only [fgt, dropO, List.filter_cons, List.filter_nil, List.contains_cons, List.contains_nil, Nat.reduceBEq, Bool.or_false, Bool.or_true, Bool.true_or, Bool.false_or, BEq.rfl, e_fin, bR, Nat.reduceEqDiff, reduceIte, Int.reduceBNe, Int.reduceBEq]
        refine .lead _ (F72 [] (by simp)) ?_
        simp only [List.map_nil, bR, Nat.reduceEqDiff, reduceIte, Int.reduceBNe, Int.reduceBEq]
        refine .done (hK _ ?_); clear hK K; simp only [thenQ, blockQ]
        refine AW.ret ?_
        simp only [blockQ, thenQ, bR, Nat.reduceEqDiff, reduceIte, Int.reduceBNe, Int.reduceBEq]
        simp only [e_fin, bR, Nat.reduceEqDiff, reduceIte, Int.reduceBNe, Int.reduceBEq]
        simp [lookedOf, hw, hr, hwo, hpl, hlk]
    · simp only [rowG, renR, rens_map_enc, List.cons_append, List.nil_append, List.all_cons, List.all_nil, AV.isVal, Bool.and_self, bR, Nat.reduceEqDiff, reduceIte, Int.reduceBNe, Int.reduceBEq]
      refine .obj true [(1000000, 27)] (rowG 1000000 (possG m r) k) [.view 1000000 [] 7 0 (possG m r).length, .func 74 [.ref (enc places), .ref (enc m), .ref (enc worn)]] (delPost 1000000 (lookedG m r worn places)) rfl
        (F73 (possG m r) 74 [.ref (enc places), .ref (enc m), .ref (enc worn)] hd (clash m.wear worn places) (fun g hg => F74 m g worn places (hpm g hg) hpi) hps k) ⟨?_, ?_⟩ ⟨.inl ⟨?_, ?_, rfl⟩, .inr ?_, trivial⟩ ?_ ?_
      · intro n x h
        simp only [rowG, lookO] at h
        split at h
        · rename_i hn'
          subst hn'
          simp only [Option.some.injEq] at h
          subst h
          exact ⟨by simp only [renR, rens_map_enc, bR, Nat.reduceEqDiff, reduceIte, Int.reduceBNe, Int.reduceBEq], map_only _ _, rfl⟩
        · cases h
      · intro a b ha hb _
        rw [isIn_one.1 ha, isIn_one.1 hb]
      · simp only [renR, bR, Nat.reduceEqDiff, reduceIte, Int.reduceBNe, Int.reduceBEq]
      · exact isIn_one.2 rfl
      · simp only [names, rowG, rnm, dropO, List.filter_cons, List.filter_nil, List.map_cons, List.map_nil, List.contains_cons, List.contains_nil, Nat.reduceBEq, Bool.or_false, Bool.or_true, Bool.true_or, Bool.false_or, BEq.rfl, e_closed, e_fin, bR, Nat.reduceEqDiff, reduceIte, Int.reduceBNe, Int.reduceBEq]
      · rintro x os' ⟨k', rfl, rfl⟩
        exact Bck.one (fun p => map_only p _) (fun _ => map_lean _) (isIn_one.2 rfl) (fun _ => rfl)
      · rintro x os' ⟨k', rfl, rfl⟩
        simp only [rowG, renR, rens_map_enc, List.cons_append, List.nil_append, bR, Nat.reduceEqDiff, reduceIte, Int.reduceBNe, Int.reduceBEq]
        refine .free [27] _ rfl (F72 (lookedG m r worn places) hld) ?_ ?_ ?_
        · simp only [keepO, List.filter_cons, List.filter_nil, List.contains_cons, List.contains_nil, Nat.reduceBEq, Bool.or_false, Bool.or_true, Bool.true_or, Bool.false_or, BEq.rfl, finV_take (α := Given) (sz := 7) rfl, take_row, bR, Nat.reduceEqDiff, reduceIte, Int.reduceBNe, Int.reduceBEq]
        · simp [dropO, onlyO, AO.only, e_only]
        · simp only [fgt, dropO, List.filter_cons, List.filter_nil, List.contains_cons, List.contains_nil, Nat.reduceBEq, Bool.or_false, Bool.or_true, Bool.true_or, Bool.false_or, BEq.rfl, AV.only, e_only, bR, Nat.reduceEqDiff, reduceIte, Int.reduceBNe, Int.reduceBEq]
          refine .done (hK _ ?_); clear hK K; simp only [thenQ, blockQ]
          refine AW.ret ?_
          simp only [blockQ, thenQ, bR, Nat.reduceEqDiff, reduceIte, Int.reduceBNe, Int.reduceBEq]
          simp only [e_fin, bR, Nat.reduceEqDiff, reduceIte, Int.reduceBNe, Int.reduceBEq]
          simp [lookedOf, hw, hr, hwo, hpl]

end Go.Proofs.Ytkjkbpgdpnapfaa

/-
  FUNCTIONS OF mark BY CONTRACT: Worn.
-/
namespace Go.Proofs.Ytkjkbpgdpnapfaa
open Go Go.Abs
open Go.Abs.Enc (enc)

theorem members_mem {w : Int} {k : Nat} (h : bit w k = true) : ∀ n, k < n → (k : Int) ∈ members w n
  | 0, h => absurd h (by omega)
  | n + 1, hk => by
    simp only [members, List.mem_append]
    rcases Nat.lt_or_ge k n with h1 | h1
    · exact .inl (members_mem h n h1)
    · have : k = n := by omega
      subst this
      right; simp [h]
theorem members_in {w : Int} : ∀ n, ∀ x ∈ members w n, 0 ≤ x ∧ x < n
  | 0 => by simp [members]
  | n + 1 => by
    intro x hx
    simp only [members, List.mem_append] at hx
    rcases hx with hx | hx
    · have := members_in n x hx; omega
    · split at hx
      · simp only [List.mem_singleton] at hx; omega
      · cases hx
theorem okWear_at {w : Arr 5 Int} (h : okWear w = true) {k : Nat} (hk : k < 5) : (0 ≤ w.g k ∧ w.g k ≤ 31) ∧ bit (w.g k) k = true := by
  simp only [okWear, List.all_eq_true, List.mem_range, Bool.and_eq_true] at h
  have := h k hk
  simp only [inR, Bool.and_eq_true, decide_eq_true_eq] at this
  exact this

/-- The place of the sign that a cut chooses. -/
def cutAt (cuts : List Int) (i n : Nat) : Nat := if 0 < cuts.length then (((cuts.getD (i % cuts.length) 0).tmod n + n).tmod n).toNat else 0
def signs (w : Arr 5 Int) (a : Arr 6 Int) (i : Nat) : List Int := members (w.g (a.g i).toNat) 5
def wornV (w : Arr 5 Int) (a : Arr 6 Int) (cuts : List Int) (i : Nat) : Int := shl 1 ((signs w a i).getD (cutAt cuts i (signs w a i).length) 0).toNat
def wornUp (w : Arr 5 Int) (a : Arr 6 Int) (cuts : List Int) : Nat → Arr 6 Int
  | 0 => zero6
  | i + 1 => upd (wornUp w a cuts i) i (wornV w a cuts i)
def wornR (w : Arr 5 Int) (a : Arr 6 Int) (cuts : List Int) : Arr 6 Int × Int := if okWear w then (if okMark a then (wornUp w a cuts 6, 0) else (zero6, 10)) else (zero6, 11)

theorem cutAt_lt (cuts : List Int) (i : Nat) {n : Nat} (hn : 0 < n) : cutAt cuts i n < n := by
  unfold cutAt
  split
  · have h1 : -(n : Int) < (cuts.getD (i % cuts.length) 0).tmod n := by
      have := Int.tmod_lt_of_pos (-(cuts.getD (i % cuts.length) 0)) (show (0 : Int) < n by omega)
      rw [Int.neg_tmod] at this; omega
    have h2 := Int.tmod_lt_of_pos ((cuts.getD (i % cuts.length) 0).tmod n + n) (show (0 : Int) < n by omega)
    have h3 : 0 ≤ ((cuts.getD (i % cuts.length) 0).tmod n + n).tmod n := Int.tmod_nonneg _ (by omega)
    omega
  · exact hn

theorem F19 (w : Arr 5 Int) (a : Arr 6 Int) (cuts : List Int) : Ctr Try.prog 19 [enc w, enc a, enc cuts] (.tuple [enc (wornR w a cuts).1, enc (wornR w a cuts).2]) := by
  refine Ctr.mk' Try.func19 ca19 cc19 cr19 (Nat.le_of_ble_eq_true rfl) (fun hwf W0 D0 E1 => ?_)
  simp only [c19, r19, idx, Nat.zero_add, Nat.reduceAdd]
  have hlen : cuts.length ≤ maxLen := ((wf_list cuts).1 hwf.2.2.1).1
  simp only [maxLen] at hlen
  refine AW.seq (AW.reg cd19_0 fun K hK => ?_)
  simp only [g19_0, bR, Nat.reduceEqDiff, reduceIte, Int.reduceBNe, Int.reduceBEq]
  simp only [e_isVal, e_zero6, bR, Nat.reduceEqDiff, reduceIte, Int.reduceBNe, Int.reduceBEq]
  refine .done (hK _ ?_); clear hK K; simp only [thenQ, blockQ]
  refine AW.seq ?_
  refine AW.seq (AW.reg cd19_1 fun K hK => ?_)
  simp only [g19_1, bR, Nat.reduceEqDiff, reduceIte, Int.reduceBNe, Int.reduceBEq]
  try simp only [typR, useR, okR, e_fin, bR, Nat.reduceEqDiff, reduceIte, Int.reduceBNe, Int.reduceBEq]
  refine .flat _ (F43 w) rfl ?_
  try simp only [typR, useR, okR, e_fin, bR, Nat.reduceEqDiff, reduceIte, Int.reduceBNe, Int.reduceBEq]
  refine .flat _ (F41 a) rfl ?_
  simp only [typR, useR, okR, e_fin, bs2, bR, Nat.reduceEqDiff, reduceIte, Int.reduceBNe, Int.reduceBEq]
  refine .flat _ (F64 _) rfl ?_
  rw [first2 _ _ 11 10 (by decide) (by decide)]
  simp only [bR, Nat.reduceEqDiff, reduceIte, Int.reduceBNe, Int.reduceBEq]
  refine .done (hK _ ?_); clear hK K; simp only [thenQ, blockQ]
  generalize hw : okWear w = bw
  generalize ha : okMark a = ba
  cases bw
  · refine AW.seq (AW.reg cd19_2 fun K hK => ?_)
    simp only [g19_2, bR, Nat.reduceEqDiff, reduceIte, Int.reduceBNe, Int.reduceBEq]
    refine .done (hK _ ?_); clear hK K; simp only [thenQ, blockQ]
    refine AW.ite ?_
    simp only [condQ, bR, Nat.reduceEqDiff, reduceIte, Int.reduceBNe, Int.reduceBEq]
    refine ⟨fun h => ?_, fun h => ?_⟩
    · refine AW.seq (AW.reg cd19_3 fun K hK => ?_)
      simp only [g19_3, bR, Nat.reduceEqDiff, reduceIte, Int.reduceBNe, Int.reduceBEq]
      simp only [setParts, e_zero6, stR3_6, bR, Nat.reduceEqDiff, reduceIte, Int.reduceBNe, Int.reduceBEq]
      refine .done (hK _ ?_); clear hK K; simp only [thenQ, blockQ]
      refine AW.ret ?_
      simp only [blockQ, thenQ, bR, Nat.reduceEqDiff, reduceIte, Int.reduceBNe, Int.reduceBEq]
      simp only [typR, e_fin, bR, Nat.reduceEqDiff, reduceIte, Int.reduceBNe, Int.reduceBEq]
      simp [wornR, hw, e_int]
    · cases h
  cases ba
  · refine AW.seq (AW.reg cd19_2 fun K hK => ?_)
    simp only [g19_2, bR, Nat.reduceEqDiff, reduceIte, Int.reduceBNe, Int.reduceBEq]
    refine .done (hK _ ?_); clear hK K; simp only [thenQ, blockQ]
    refine AW.ite ?_
    simp only [condQ, bR, Nat.reduceEqDiff, reduceIte, Int.reduceBNe, Int.reduceBEq]
    refine ⟨fun h => ?_, fun h => ?_⟩
    · refine AW.seq (AW.reg cd19_3 fun K hK => ?_)
      simp only [g19_3, bR, Nat.reduceEqDiff, reduceIte, Int.reduceBNe, Int.reduceBEq]
      simp only [setParts, e_zero6, stR3_6, bR, Nat.reduceEqDiff, reduceIte, Int.reduceBNe, Int.reduceBEq]
      refine .done (hK _ ?_); clear hK K; simp only [thenQ, blockQ]
      refine AW.ret ?_
      simp only [blockQ, thenQ, bR, Nat.reduceEqDiff, reduceIte, Int.reduceBNe, Int.reduceBEq]
      simp only [typR, e_fin, bR, Nat.reduceEqDiff, reduceIte, Int.reduceBNe, Int.reduceBEq]
      simp [wornR, hw, ha, e_int]
    · cases h
  refine AW.seq (AW.reg cd19_2 fun K hK => ?_)
  simp only [g19_2, bR, Nat.reduceEqDiff, reduceIte, Int.reduceBNe, Int.reduceBEq]
  refine .done (hK _ ?_); clear hK K; simp only [thenQ, blockQ]
  refine AW.ite ?_
  simp only [condQ, bR, Nat.reduceEqDiff, reduceIte, Int.reduceBNe, Int.reduceBEq]
  refine ⟨fun h => ?_, fun h => ?_⟩
  · cases h
  refine AW.skip ?_; simp only [thenQ, blockQ, reduceIte, Nat.reduceEqDiff]
  refine AW.seq (AW.reg cd19_4 fun K hK => ?_)
  simp only [g19_4, bR, Nat.reduceEqDiff, reduceIte, Int.reduceBNe, Int.reduceBEq]
  refine .done (hK _ ?_); clear hK K; simp only [thenQ, blockQ]
  refine AW.seq ?_
  refine AW.seq (AW.reg cd19_5 fun K hK => ?_)
  simp only [g19_5, bR, Nat.reduceEqDiff, reduceIte, Int.reduceBNe, Int.reduceBEq]
  refine .done (hK _ ?_); clear hK K; simp only [thenQ, blockQ]
  refine AW.block (AW.loop (fun i : Nat => mkA [(2, enc cuts), (3, .ptr 3 []), (4, .ptr 4 []), (6, .ptr 6 []), (9, .ptr 9 []), (23, .int .i64 i)] [(3, .box (enc w)), (4, .box (enc a)), (6, .box (enc zero6)), (9, .box (enc (wornUp w a cuts i)))]) (fun i => i ≤ 6) (fun i => 6 - i) 0 (by omega) ?_ (fun i hi => ?_))
  · simp only [e_zero6, wornUp]
    refine Sub.of_lists ?_ ?_ ?_ ?_ <;> simp [subT, subO, onlyT, onlyO, isIn, look_cons, lookO_cons, lookO_nil, AV.only, AV.onlys, AO.only, onlys_map, onlys_append, e_only, e_int, e_bool]
  refine AW.seq (AW.reg cd19_6 fun K hK => ?_)
  simp only [g19_6, bR, Nat.reduceEqDiff, reduceIte, Int.reduceBNe, Int.reduceBEq]
  refine .done (hK _ ?_); clear hK K; simp only [thenQ, blockQ]
  refine AW.seq ?_
  refine AW.ite ?_
  simp only [condQ, bR, Nat.reduceEqDiff, reduceIte, Int.reduceBNe, Int.reduceBEq]
  refine ⟨fun h => ?_, fun h => ?_⟩
  · have hi6 : i < 6 := by simp at h; omega
    refine AW.skip ?_; simp only [thenQ, blockQ, reduceIte, Nat.reduceEqDiff]
    refine AW.seq (AW.block ?_)
    refine AW.seq (AW.reg cd19_7 fun K hK => ?_)
    simp only [g19_7, bR, Nat.reduceEqDiff, reduceIte, Int.reduceBNe, Int.reduceBEq]
    refine .done (hK _ ?_); clear hK K; simp only [thenQ, blockQ]
    refine AW.seq (AW.reg cd19_8 fun K hK => ?_)
    simp only [g19_8, bR, Nat.reduceEqDiff, reduceIte, Int.reduceBNe, Int.reduceBEq]
    try simp only [typR, useR, okR, e_fin, bR, Nat.reduceEqDiff, reduceIte, Int.reduceBNe, Int.reduceBEq]
    have h1 := okMark_at ha hi6
    have h2 := okWear_at hw (show (a.g i).toNat < 5 by omega)
    refine .flat _ (F77 w a i hi6 h1.1 h1.2) rfl ?_
    try simp only [typR, useR, okR, e_fin, bR, Nat.reduceEqDiff, reduceIte, Int.reduceBNe, Int.reduceBEq]
    refine .lead _ (F81 (w.g (a.g i).toNat) h2.1.1 h2.1.2) ?_
    try simp only [typR, useR, okR, e_fin, bR, Nat.reduceEqDiff, reduceIte, Int.reduceBNe, Int.reduceBEq]
    refine .done (hK _ ?_); clear hK K; simp only [thenQ, blockQ]
    have hL : signs w a i = members (w.g (a.g i).toNat) 5 := rfl
    rw [← hL]
    have hL5 : (signs w a i).length ≤ 5 := members_le _ 5
    have hL0 : 0 < (signs w a i).length := List.length_pos_of_mem (members_mem h2.2 5 (by omega))
    have hLn : ¬ ((signs w a i).length : Int) = 0 := by omega
    have hLi : ∀ x ∈ signs w a i, 0 ≤ x ∧ x < (5 : Nat) := members_in 5
    have hV : wornV w a cuts i = shl 1 ((signs w a i).getD (cutAt cuts i (signs w a i).length) 0).toNat := rfl
    have hcl := cutAt_lt cuts i hL0
    generalize hLL : signs w a i = L at hL5 hL0 hLn hLi hV hcl ⊢
    refine AW.seq (AW.reg cd19_9 fun K hK => ?_)
    simp only [g19_9, bR, Nat.reduceEqDiff, reduceIte, Int.reduceBNe, Int.reduceBEq]
    refine .done (hK _ ?_); clear hK K; simp only [thenQ, blockQ]
    refine AW.seq ?_
    refine AW.via (mkA [(2, enc cuts), (3, .ptr 3 []), (4, .ptr 4 []), (6, .ptr 6 []), (9, .ptr 9 []), (10, .int .i64 i), (11, enc L), (12, .int .i64 (cutAt cuts i L.length)), (23, .int .i64 i)] [(3, .box (enc w)), (4, .box (enc a)), (6, .box (enc zero6)), (9, .box (enc (wornUp w a cuts i)))]) ?_ fun B hB => ?_
    · refine AW.seq (AW.reg cd19_10 fun K hK => ?_)
      simp only [g19_10, bR, Nat.reduceEqDiff, reduceIte, Int.reduceBNe, Int.reduceBEq]
      try simp only [typR, useR, okR, e_fin, bR, Nat.reduceEqDiff, reduceIte, Int.reduceBNe, Int.reduceBEq]
      refine .done (hK _ ?_); clear hK K; simp only [thenQ, blockQ]
      refine AW.ite ?_
      simp only [condQ, bR, Nat.reduceEqDiff, reduceIte, Int.reduceBNe, Int.reduceBEq]
      refine ⟨fun h => ?_, fun h => ?_⟩
      · have hcp : 0 < cuts.length := by simpa using h
        have hcn : ¬ (cuts.length : Int) = 0 := by omega
        have hm : (i : Int).tmod cuts.length = ((i % cuts.length : Nat) : Int) := Int.ofNat_tmod i cuts.length
        have hml : i % cuts.length < cuts.length := Nat.mod_lt _ hcp
        refine AW.reg cd19_11 fun K hK => ?_
        simp only [g19_11, bR, Nat.reduceEqDiff, reduceIte, Int.reduceBNe, Int.reduceBEq]
        simp only [hcn, hm, isE_getD hml, hLn, typR, useR, okR, bR, Nat.reduceEqDiff, reduceIte, Int.reduceBNe, Int.reduceBEq]
        refine .done (hK _ ?_); clear hK K; simp only [thenQ, blockQ]
        generalize hx : cuts.getD (i % cuts.length) 0 = x
        have b1 := Int.tmod_lt_of_pos x (show (0 : Int) < L.length by omega)
        have b2 : -(L.length : Int) < x.tmod L.length := by
          have := Int.tmod_lt_of_pos (-x) (show (0 : Int) < L.length by omega)
          rw [Int.neg_tmod] at this; omega
        have b3 : 0 ≤ (x.tmod L.length + L.length).tmod L.length := Int.tmod_nonneg _ (by omega)
        have hcut : ((cutAt cuts i L.length : Nat) : Int) = (x.tmod L.length + L.length).tmod L.length := by
          simp only [cutAt, if_pos hcp, hx]; omega
        rw [wrap_id _ (by omega) (by omega), ← hcut]
        refine Sub.of_lists ?_ ?_ ?_ ?_ <;> simp [subT, subO, onlyT, onlyO, isIn, look_cons, lookO_cons, lookO_nil, AV.only, AV.onlys, AO.only, onlys_map, onlys_append, e_only, e_int, e_bool]
      · have hcp : cuts.length = 0 := by simpa using h
        refine AW.skip ?_; simp only [thenQ, blockQ, reduceIte, Nat.reduceEqDiff]
        have : cutAt cuts i L.length = 0 := by simp [cutAt, hcp]
        rw [this]
        refine Sub.of_lists ?_ ?_ ?_ ?_ <;> simp [subT, subO, onlyT, onlyO, isIn, look_cons, lookO_cons, lookO_nil, AV.only, AV.onlys, AO.only, onlys_map, onlys_append, e_only, e_int, e_bool]
    simp only [thenQ, blockQ]
    refine AW.sub hB ?_
    have hin := hLi (L.getD (cutAt cuts i L.length) 0) (by rw [List.getD_eq_getElem?_getD, List.getElem?_eq_getElem hcl]; exact List.getElem_mem hcl)
    refine AW.reg cd19_12 fun K hK => ?_
    simp only [g19_12, bR, Nat.reduceEqDiff, reduceIte, Int.reduceBNe, Int.reduceBEq]
    simp only [isE_getD hcl, typR, useR, okR, bR, Nat.reduceEqDiff, reduceIte, Int.reduceBNe, Int.reduceBEq]
    have hsh : IntKind.i64.wrap (1 * 2 ^ min (L.getD (cutAt cuts i L.length) 0).toNat IntKind.i64.bits) = wornV w a cuts i := hV.symm
    rw [if_pos hin.1, hsh]
    simp only [typR, useR, okR, inB_nat 1 (wornUp w a cuts i) hi6 rfl, atL_g (wornUp w a cuts i) hi6, get_g (wornUp w a cuts i) hi6, stR3_g (wornUp w a cuts i) hi6, bR, Nat.reduceEqDiff, reduceIte, Int.reduceBNe, Int.reduceBEq]
    refine .done (hK _ ?_); clear hK K; simp only [thenQ, blockQ]
    refine AW.reg cd19_13 fun K hK => ?_
    simp only [g19_13, bR, Nat.reduceEqDiff, reduceIte, Int.reduceBNe, Int.reduceBEq]
    refine .done (hK _ ?_); clear hK K; simp only [thenQ, blockQ]
    refine ⟨i + 1, by omega, by omega, ?_⟩
    rw [wrap_id _ (by omega) (by omega), wornUp]
    refine Sub.of_lists ?_ ?_ ?_ ?_ <;> simp [subT, subO, onlyT, onlyO, isIn, look_cons, lookO_cons, lookO_nil, AV.only, AV.onlys, AO.only, onlys_map, onlys_append, e_only, e_int, e_bool]
  · have h6 : i = 6 := by simp at h; omega
    subst h6
    refine AW.exit ?_; simp only [thenQ, blockQ, reduceIte, Nat.reduceEqDiff]
    refine AW.seq (AW.reg cd19_14 fun K hK => ?_)
    simp only [g19_14, bR, Nat.reduceEqDiff, reduceIte, Int.reduceBNe, Int.reduceBEq]
    simp only [typR, stR3_6, bR, Nat.reduceEqDiff, reduceIte, Int.reduceBNe, Int.reduceBEq]
    refine .done (hK _ ?_); clear hK K; simp only [thenQ, blockQ]
    refine AW.ret ?_
    simp only [blockQ, thenQ, bR, Nat.reduceEqDiff, reduceIte, Int.reduceBNe, Int.reduceBEq]
    simp only [typR, e_fin, bR, Nat.reduceEqDiff, reduceIte, Int.reduceBNe, Int.reduceBEq]
    simp [wornR, hw, ha, e_int]

end Go.Proofs.Ytkjkbpgdpnapfaa

/-
  THE LAW's OWN CHECK OF THE BOOK IT KNOWS, BY CONTRACT: sane.
-/
namespace Go.Proofs.Ytkjkbpgdpnapfaa
open Go Go.Abs
open Go.Abs.Enc (enc)

def rd1 : Arr 6 Int := a6 31 1 1 1 1 31
def wn1 : Arr 6 Int := a6 16 1 1 1 1 1
theorem sOwn : ownersOf bookM rd1 = ([1, 2, 3], 0) := by decide +kernel
theorem sLook : lookOf bookM rd1 = ([0], 0) := by decide +kernel
theorem sLooked : lookedOf bookM rd1 wn1 [0] = ([3], 0) := by decide +kernel
theorem sDist : distR bookM.wear (a6 2 1 0 0 0 0) (a6 3 2 0 0 0 0) = (2, 0) := by decide +kernel
theorem sWorn1 : (wornR bookM.wear (a6 3 1 0 0 0 0) [1, 0]).1 = wn1 := arr_ext (by decide +kernel)
theorem sWorn2 : (wornR bookM.wear (a6 3 1 0 0 0 0) [1, 0]).2 = 0 := by decide +kernel
theorem sNextK : nextK bookM = some 2 := find_range _ (by omega) (by decide +kernel) (fun j hj => by
  match j, hj with
  | 0, _ => decide +kernel
  | 1, _ => decide +kernel
  | n + 2, h => exact absurd h (by omega))
theorem sNext1 : (nextOf bookM).1 = a6 0 0 0 0 0 2 := by
  have h1 : okM bookM = true := by decide +kernel
  have h2 : ¬ bookM.given.length = 40 := by decide +kernel
  simp only [nextOf, h1, if_true, if_neg h2, sNextK]
  exact arr_ext (by decide +kernel)
theorem sNext2 : (nextOf bookM).2 = 0 := by
  have h1 : okM bookM = true := by decide +kernel
  have h2 : ¬ bookM.given.length = 40 := by decide +kernel
  simp only [nextOf, h1, if_true, if_neg h2, sNextK]

theorem F21 : Ctr Try.prog 21 [] (enc true) := by
  refine Ctr.mk' Try.func21 ca21 cc21 cr21 (Nat.le_of_ble_eq_true rfl) (fun hwf W0 D0 E1 => ?_)
  simp only [c21, r21, idx, Nat.zero_add, Nat.reduceAdd]
  refine AW.seq (AW.reg cd21_0 fun K hK => ?_)
  simp only [g21_0, bR, Nat.reduceEqDiff, reduceIte, Int.reduceBNe, Int.reduceBEq]
  refine .done (hK _ ?_); clear hK K; simp only [thenQ, blockQ]
  refine AW.seq (AW.reg cd21_1 fun K hK => ?_)
  simp only [g21_1, bR, Nat.reduceEqDiff, reduceIte, Int.reduceBNe, Int.reduceBEq]
  refine .lead _ F82 ?_
  simp only [e_a5, bR, Nat.reduceEqDiff, reduceIte, Int.reduceBNe, Int.reduceBEq]
  rw [stR3_ok (e_isVal _) (by rw [e_okS]; rfl) ((e_sh _).trans rfl)]
  simp only [setAt_nil, bR, Nat.reduceEqDiff, reduceIte, Int.reduceBNe, Int.reduceBEq]
  refine .done (hK _ ?_); clear hK K; simp only [thenQ, blockQ]
  refine AW.seq (AW.reg cd21_2 fun K hK => ?_)
  simp only [g21_2, bR, Nat.reduceEqDiff, reduceIte, Int.reduceBNe, Int.reduceBEq]
  simp only [bld6, e_a6, stR3_6, bR, Nat.reduceEqDiff, reduceIte, Int.reduceBNe, Int.reduceBEq]
  refine .done (hK _ ?_); clear hK K; simp only [thenQ, blockQ]
  refine AW.seq (AW.reg cd21_3 fun K hK => ?_)
  simp only [g21_3, bR, Nat.reduceEqDiff, reduceIte, Int.reduceBNe, Int.reduceBEq]
  try simp only [typR, useR, okR, e_fin, bR, Nat.reduceEqDiff, reduceIte, Int.reduceBNe, Int.reduceBEq]
  refine .lead _ (F26 bookM rd1) ?_
  simp only [sOwn, typR, bR, Nat.reduceEqDiff, reduceIte, Int.reduceBNe, Int.reduceBEq]
  refine .done (hK _ ?_); clear hK K; simp only [thenQ, blockQ]
  refine AW.seq (AW.reg cd21_4 fun K hK => ?_)
  simp only [g21_4, bR, Nat.reduceEqDiff, reduceIte, Int.reduceBNe, Int.reduceBEq]
  try simp only [typR, useR, okR, e_fin, bR, Nat.reduceEqDiff, reduceIte, Int.reduceBNe, Int.reduceBEq]
  refine .lead _ (F12 bookM rd1) ?_
  simp only [sLook, typR, bR, Nat.reduceEqDiff, reduceIte, Int.reduceBNe, Int.reduceBEq]
  refine .done (hK _ ?_); clear hK K; simp only [thenQ, blockQ]
  refine AW.seq (AW.reg cd21_5 fun K hK => ?_)
  simp only [g21_5, bR, Nat.reduceEqDiff, reduceIte, Int.reduceBNe, Int.reduceBEq]
  simp only [typR, useR, okR, e_fin, bld6, e_a6, bR, Nat.reduceEqDiff, reduceIte, Int.reduceBNe, Int.reduceBEq]
  refine .lead _ (F14 bookM rd1 wn1 [0]) ?_
  simp only [sLooked, typR, bR, Nat.reduceEqDiff, reduceIte, Int.reduceBNe, Int.reduceBEq]
  refine .done (hK _ ?_); clear hK K; simp only [thenQ, blockQ]
  refine AW.seq (AW.reg cd21_6 fun K hK => ?_)
  simp only [g21_6, bR, Nat.reduceEqDiff, reduceIte, Int.reduceBNe, Int.reduceBEq]
  try simp only [typR, useR, okR, e_fin, bR, Nat.reduceEqDiff, reduceIte, Int.reduceBNe, Int.reduceBEq]
  refine .lead _ (F55 bookM) ?_
  simp only [sNext1, sNext2, typR, e_a6, stR3_6, bR, Nat.reduceEqDiff, reduceIte, Int.reduceBNe, Int.reduceBEq]
  refine .done (hK _ ?_); clear hK K; simp only [thenQ, blockQ]
  refine AW.seq (AW.reg cd21_7 fun K hK => ?_)
  simp only [g21_7, bR, Nat.reduceEqDiff, reduceIte, Int.reduceBNe, Int.reduceBEq]
  simp only [typR, useR, okR, e_fin, bld6, e_a6, bR, Nat.reduceEqDiff, reduceIte, Int.reduceBNe, Int.reduceBEq]
  refine .lead _ (F36 bookM.wear (a6 2 1 0 0 0 0) (a6 3 2 0 0 0 0)) ?_
  simp only [sDist, typR, bR, Nat.reduceEqDiff, reduceIte, Int.reduceBNe, Int.reduceBEq]
  refine .done (hK _ ?_); clear hK K; simp only [thenQ, blockQ]
  refine AW.seq (AW.reg cd21_8 fun K hK => ?_)
  simp only [g21_8, bR, Nat.reduceEqDiff, reduceIte, Int.reduceBNe, Int.reduceBEq]
  simp only [typR, useR, okR, e_fin, bld6, e_a6, bs2, bR, Nat.reduceEqDiff, reduceIte, Int.reduceBNe, Int.reduceBEq]
  refine .lead _ (F19 bookM.wear (a6 3 1 0 0 0 0) [1, 0]) ?_
  simp only [sWorn1, sWorn2, typR, e_a6, stR3_6, bR, Nat.reduceEqDiff, reduceIte, Int.reduceBNe, Int.reduceBEq]
  refine .done (hK _ ?_); clear hK K; simp only [thenQ, blockQ]
  refine AW.seq (AW.reg cd21_9 fun K hK => ?_)
  simp only [g21_9, bR, Nat.reduceEqDiff, reduceIte, Int.reduceBNe, Int.reduceBEq]
  try simp only [typR, useR, okR, e_fin, bR, Nat.reduceEqDiff, reduceIte, Int.reduceBNe, Int.reduceBEq]
  refine .done (hK _ ?_); clear hK K; simp only [thenQ, blockQ]
  refine AW.seq (AW.reg cd21_10 fun K hK => ?_)
  simp only [g21_10, bR, Nat.reduceEqDiff, reduceIte, Int.reduceBNe, Int.reduceBEq]
  simp only [typR, useR, okR, e_fin, bs3, bR, Nat.reduceEqDiff, reduceIte, Int.reduceBNe, Int.reduceBEq]
  refine .flat _ (F16 [1, 2, 3] [1, 2, 3]) rfl ?_
  simp only [typR, useR, okR, e_fin, decide_true, bR, Nat.reduceEqDiff, reduceIte, Int.reduceBNe, Int.reduceBEq]
  refine .flat _ (F16 [0] [0]) rfl ?_
  simp only [typR, useR, okR, e_fin, decide_true, bR, Nat.reduceEqDiff, reduceIte, Int.reduceBNe, Int.reduceBEq]
  refine .flat _ (F16 [3] [3]) rfl ?_
  simp only [typR, useR, okR, e_fin, decide_true, bld6, e_a6, eqE_arr, bR, Nat.reduceEqDiff, reduceIte, Int.reduceBNe, Int.reduceBEq]
  refine .done (hK _ ?_); clear hK K; simp only [thenQ, blockQ]
  refine AW.ret ?_
  simp only [blockQ, thenQ, bR, Nat.reduceEqDiff, reduceIte, Int.reduceBNe, Int.reduceBEq]
  rfl

end Go.Proofs.Ytkjkbpgdpnapfaa

/-
  THE LAW MarkChecks BY CONTRACT.
-/
namespace Go.Proofs.Ytkjkbpgdpnapfaa
open Go Go.Abs
open Go.Abs.Enc (enc)

theorem F8 (m : Marks) (g : Given) (r : Arr 6 Int) : Ctr Try.prog 8 [enc m, enc g, enc r] (enc true) := by
  refine Ctr.mk' Try.func8 ca8 cc8 cr8 (Nat.le_of_ble_eq_true rfl) (fun hwf W0 D0 E1 => ?_)
  simp only [c8, r8, idx, Nat.zero_add, Nat.reduceAdd]
  refine AW.seq (AW.reg cd8_0 fun K hK => ?_)
  simp only [g8_0, bR, Nat.reduceEqDiff, reduceIte, Int.reduceBNe, Int.reduceBEq]
  simp only [e_isVal, bR, Nat.reduceEqDiff, reduceIte, Int.reduceBNe, Int.reduceBEq]
  refine .done (hK _ ?_); clear hK K; simp only [thenQ, blockQ]
  refine AW.seq (AW.reg cd8_1 fun K hK => ?_)
  simp only [g8_1, bR, Nat.reduceEqDiff, reduceIte, Int.reduceBNe, Int.reduceBEq]
  try simp only [typR, useR, okR, e_fin, bR, Nat.reduceEqDiff, reduceIte, Int.reduceBNe, Int.reduceBEq]
  refine .lead _ (F39 m g.owner) ?_
  simp only [typR, e_a6, stR3_6, bR, Nat.reduceEqDiff, reduceIte, Int.reduceBNe, Int.reduceBEq]
  refine .done (hK _ ?_); clear hK K; simp only [thenQ, blockQ]
  refine AW.seq (AW.reg cd8_2 fun K hK => ?_)
  simp only [g8_2, bR, Nat.reduceEqDiff, reduceIte, Int.reduceBNe, Int.reduceBEq]
  try simp only [typR, useR, okR, e_fin, bR, Nat.reduceEqDiff, reduceIte, Int.reduceBNe, Int.reduceBEq]
  refine .lead _ (F40 m g.owner) ?_
  simp only [typR, e_a6, stR3_6, bR, Nat.reduceEqDiff, reduceIte, Int.reduceBNe, Int.reduceBEq]
  refine .done (hK _ ?_); clear hK K; simp only [thenQ, blockQ]
  refine AW.seq (AW.reg cd8_3 fun K hK => ?_)
  simp only [g8_3, bR, Nat.reduceEqDiff, reduceIte, Int.reduceBNe, Int.reduceBEq]
  simp only [typR, useR, okR, e_fin, eqE_arr, decide_true, BEq.rfl, bR, Nat.reduceEqDiff, reduceIte, Int.reduceBNe, Int.reduceBEq]
  refine .flat _ (F41 g.mark) rfl ?_
  simp only [typR, useR, okR, e_fin, eqE_arr, decide_true, BEq.rfl, bR, Nat.reduceEqDiff, reduceIte, Int.reduceBNe, Int.reduceBEq]
  refine .flat _ (F42' g.mark) rfl ?_
  simp only [typR, useR, okR, e_fin, eqE_arr, decide_true, BEq.rfl, bR, Nat.reduceEqDiff, reduceIte, Int.reduceBNe, Int.reduceBEq]
  refine .flat _ (F43 m.wear) rfl ?_
  simp only [typR, useR, okR, e_fin, eqE_arr, decide_true, BEq.rfl, bR, Nat.reduceEqDiff, reduceIte, Int.reduceBNe, Int.reduceBEq]
  refine .flat _ (F44' m.wear) rfl ?_
  simp only [typR, useR, okR, e_fin, eqE_arr, decide_true, BEq.rfl, bR, Nat.reduceEqDiff, reduceIte, Int.reduceBNe, Int.reduceBEq]
  refine .flat _ (F45 r) rfl ?_
  simp only [typR, useR, okR, e_fin, eqE_arr, decide_true, BEq.rfl, bR, Nat.reduceEqDiff, reduceIte, Int.reduceBNe, Int.reduceBEq]
  refine .flat _ (F46' r) rfl ?_
  simp only [typR, useR, okR, e_fin, eqE_arr, decide_true, BEq.rfl, bR, Nat.reduceEqDiff, reduceIte, Int.reduceBNe, Int.reduceBEq]
  refine .flat _ (F47 m) rfl ?_
  simp only [typR, useR, okR, e_fin, eqE_arr, decide_true, BEq.rfl, bR, Nat.reduceEqDiff, reduceIte, Int.reduceBNe, Int.reduceBEq]
  refine .flat _ (F48 m) rfl ?_
  simp only [typR, useR, okR, e_fin, eqE_arr, decide_true, BEq.rfl, bR, Nat.reduceEqDiff, reduceIte, Int.reduceBNe, Int.reduceBEq]
  refine .flat _ F21 rfl ?_
  simp only [typR, useR, okR, e_fin, eqE_arr, decide_true, BEq.rfl, bR, Nat.reduceEqDiff, reduceIte, Int.reduceBNe, Int.reduceBEq]
  refine .done (hK _ ?_); clear hK K; simp only [thenQ, blockQ]
  refine AW.ret ?_
  simp only [blockQ, thenQ, bR, Nat.reduceEqDiff, reduceIte, Int.reduceBNe, Int.reduceBEq]

end Go.Proofs.Ytkjkbpgdpnapfaa

/-
  PROVED HERE: the law MarkChecks returns true for every input, and each argument reads afterwards as it read before. Conditions: none beyond the statement's own.
-/
namespace Go.Proofs.Ytkjkbpgdpnapfaa
open Go Go.Abs Go.ChangeShapes Go.WideShapes Go.ChangeAt Go.RowKit
open Go.Abs.Enc (enc)

set_option maxRecDepth 100000 in
theorem markChecks_lifted (os : Os) (started : os.Started) (H : Type) (enc0 : TypeId × Value → H) :
    ReturnsInHanded {} Try.checked os 8 .any (Rows.markChecksSpec.pre6 enc0 Try.prog Try.f8 Rows.markChecksRow.domain false) (Rows.markChecksSpec.post enc0 Try.prog Try.f8 false true false false) := by
  refine returnsInHanded_of_change (C := Try.checked) Try.own started (by kernel_rfl) Try.func8
    (ChangeSpec.witness6 (enc := enc0) (C := Try.checked) false ⟨#[], #[.agg #[.int .i64 0, .int .i64 0, .int .i64 0, .int .i64 0, .int .i64 0, .int .i64 0, .slice none 0 0], .agg #[.int .i64 0, .int .i64 0, .int .i64 0, .int .i64 0, .int .i64 0, .int .i64 0, .int .i64 0], .agg #[.int .i64 0, .int .i64 0, .int .i64 0, .int .i64 0, .int .i64 0, .int .i64 0]], []⟩ 8 (by kernel_rfl) (by kernel_rfl) (by kernel_rfl) (by kernel_rfl)) ?_
  intro W base args ds gs before hval0 hW hcnd _
  have hval : ∀ (j : Nat) t v, Try.f8.params[j]? = some t → args[j]? = some v → Value.okWide Try.prog W .any base t v := hval0
  have hW' := hW
  obtain ⟨p, q, hA0, hV, hbef, hfz, hnd⟩ := hW
  have hA : DataW.TrodAll enc0 Try.prog W 0 (fun _ => true) true Try.f8.params.toList args.toList ds p := hA0
  rw [Try.params8] at hA hval
  obtain ⟨v0, v1, v2, d0, d1, d2, p0, p1, p2, rfl, rfl, rfl, h0, h1, h2⟩ := trodAll_three hA
  obtain ⟨rfl, rfl⟩ := trodVars_none hV
  obtain ⟨m, c0, k0⟩ := open_arg oMarks rfl (by kernel_rfl) (hval 0 26 v0 rfl rfl) h0
  obtain ⟨g, c1, k1⟩ := open_arg oGiven rfl (by kernel_rfl) (hval 1 43 v1 rfl rfl) h1
  obtain ⟨r, c2, k2⟩ := open_arg oReading rfl (by kernel_rfl) (hval 2 28 v2 rfl rfl) h2
  exact law_post (tb := 4) Try.laidOut (by rw [Try.params8]) rfl rfl (by rw [hbef]; simp) rfl rfl (by kernel_rfl) (by kernel_rfl) hW' h0 h1 h2 (by
    intro t ht
    simp only [List.mem_cons, List.mem_nil_iff, or_false] at ht
    rcases ht with rfl | rfl | rfl <;> exact ⟨by kernel_rfl, of_decide_eq_true (by kernel_rfl)⟩) (F8 m g r) (rvs3 ⟨c0, k0⟩ ⟨c1, k1⟩ ⟨c2, k2⟩)

theorem markChecks_holds : Rows.MarkChecksSaid :=
  OpenClaim.holds_of_wide 8 Try.f8 rfl rfl rfl rfl rfl rfl rfl ⟨rfl, rfl, rfl, rfl, rfl⟩ rfl rfl rfl rfl rfl (by kernel_rfl) Try.func8 (by kernel_rfl)
    (of_decide_eq_true (by kernel_rfl)) (by unfold Func.isWrapper; first | (rw [if_pos (by decide +kernel)]; kernel_rfl) | (rw [if_neg (by decide +kernel)]; exact ⟨rfl, rfl⟩))
    (fun os started H enc0 _ => markChecks_lifted os started H enc0)

#print axioms markChecks_holds
end Go.Proofs.Ytkjkbpgdpnapfaa

/-
  FUNCTIONS BY CONTRACT: Of, of mark.
-/
namespace Go.Proofs.Ytkjkbpgdpnapfaa
open Go Go.Abs
open Go.Abs.Enc (enc)

def rr (rs : List (Arr 6 Int)) (j : Nat) : Arr 6 Int := rs.getD j zero6
theorem isE_rr {A : AState} {rs : List (Arr 6 Int)} {i : Nat} (h : i < rs.length) : isE A 6 (i : Int) (enc rs) = some (.ref (enc (rr rs i))) := by
  rw [isE_nat 6 h rfl]; simp [rr, List.getD_eq_getElem?_getD, h]
def dueAt (m : Marks) (rs : List (Arr 6 Int)) (g : Given) (j : Nat) : Bool := decide (costOf m.wear g.mark (rr rs j) ≤ m.fls)
/-- The given marks that are due at each of the first n readings. -/
def ofG (m : Marks) (rs : List (Arr 6 Int)) (n : Nat) : List Given := m.given.filter fun g => (List.range n).all (dueAt m rs g)
theorem ofG_zero (m : Marks) (rs : List (Arr 6 Int)) : ofG m rs 0 = m.given := by simp [ofG]
theorem ofG_succ (m : Marks) (rs : List (Arr 6 Int)) (n : Nat) : ofG m rs (n + 1) = possG ⟨m.wear, m.fls, ofG m rs n⟩ (rr rs n) := by
  simp only [ofG, possG, keep, List.filter_filter]
  refine List.filter_congr fun g _ => ?_
  rw [List.range_succ, List.all_append]
  simp only [List.all_cons, List.all_nil, Bool.and_true, dueAt]
  by_cases h : costOf m.wear g.mark (rr rs n) ≤ m.fls
  · have h2 : ¬ m.fls < costOf m.wear g.mark (rr rs n) := by omega
    simp [h, h2]
  · have h2 : m.fls < costOf m.wear g.mark (rr rs n) := by omega
    simp [h, h2]
theorem ofG_mem {m : Marks} {rs : List (Arr 6 Int)} {n : Nat} {g : Given} (h : g ∈ ofG m rs n) : g ∈ m.given := (List.mem_filter.1 h).1
theorem ofG_len (m : Marks) (rs : List (Arr 6 Int)) (n : Nat) : (ofG m rs n).length ≤ m.given.length := List.length_filter_le _ _

def okRs (rs : List (Arr 6 Int)) : Bool := (List.range rs.length).all fun i => okReading (rr rs i)
def ofR (m : Marks) (rs : List (Arr 6 Int)) : List Int × Int := if okM m then (if rs.length ≤ 60 then (if okRs rs then ((ofG m rs rs.length).map (·.owner), 0) else ([], 12)) else ([], 2)) else ([], 13)

theorem bldM3 (w : Arr 5 Int) (n : Int) (l : List Given) : setParts [enc (a5 0 0 0 0 0), .int .i64 0, .nils 7] [(0, enc w), (1, .int .i64 n), (2, enc l)] = some [enc w, .int .i64 n, enc l] := by
  have h1 : ((enc w : AV).isVal = true ∧ (enc w : AV).size = (enc (a5 0 0 0 0 0)).size) := ⟨e_isVal _, by rw [e_size, e_size]⟩
  have h2 : ((enc l : AV).isVal = true ∧ (enc l : AV).size = (AV.nils 7).size) := ⟨e_isVal _, by rw [e_size]; rfl⟩
  rw [setParts_cons (z := enc (a5 0 0 0 0 0)) rfl h1.1 h1.2, setParts_cons (v := .int .i64 n) (z := .int .i64 0) rfl rfl rfl, setParts_cons (z := .nils 7) rfl h2.1 h2.2]; rfl

theorem F31 (m : Marks) (rs : List (Arr 6 Int)) : Ctr Try.prog 31 [enc m, enc rs] (.tuple [enc (ofR m rs).1, enc (ofR m rs).2]) := by
  refine Ctr.mk' Try.func31 ca31 cc31 cr31 (Nat.le_of_ble_eq_true rfl) (fun hwf W0 D0 E1 => ?_)
  simp only [c31, r31, idx, Nat.zero_add, Nat.reduceAdd]
  refine AW.seq (AW.reg cd31_0 fun K hK => ?_)
  simp only [g31_0, bR, Nat.reduceEqDiff, reduceIte, Int.reduceBNe, Int.reduceBEq]
  simp only [e_isVal, bR, Nat.reduceEqDiff, reduceIte, Int.reduceBNe, Int.reduceBEq]
  refine .done (hK _ ?_); clear hK K; simp only [thenQ, blockQ]
  refine AW.seq ?_
  refine AW.seq (AW.reg cd31_1 fun K hK => ?_)
  simp only [g31_1, bR, Nat.reduceEqDiff, reduceIte, Int.reduceBNe, Int.reduceBEq]
  try simp only [typR, useR, okR, e_fin, bR, Nat.reduceEqDiff, reduceIte, Int.reduceBNe, Int.reduceBEq]
  refine .flat _ (F47 m) rfl ?_
  generalize hm : okM m = bm
  cases bm
  · try simp only [typR, useR, okR, e_fin, bR, Nat.reduceEqDiff, reduceIte, Int.reduceBNe, Int.reduceBEq]
    refine .done (hK _ ?_); clear hK K; simp only [thenQ, blockQ]
    refine AW.seq (AW.reg cd31_2 fun K hK => ?_)
    simp only [g31_2, bR, Nat.reduceEqDiff, reduceIte, Int.reduceBNe, Int.reduceBEq]
    refine .done (hK _ ?_); clear hK K; simp only [thenQ, blockQ]
    refine AW.ite ?_
    simp only [condQ, bR, Nat.reduceEqDiff, reduceIte, Int.reduceBNe, Int.reduceBEq]
    refine ⟨fun h => ?_, fun h => ?_⟩
    · refine AW.seq (AW.reg cd31_3 fun K hK => ?_)
      simp only [g31_3, bR, Nat.reduceEqDiff, reduceIte, Int.reduceBNe, Int.reduceBEq]
      refine .done (hK _ ?_); clear hK K; simp only [thenQ, blockQ]
      refine AW.ret ?_
      simp only [blockQ, thenQ, bR, Nat.reduceEqDiff, reduceIte, Int.reduceBNe, Int.reduceBEq]
      simp [ofR, hm, nilInt]
    · cases h
  try simp only [typR, useR, okR, e_fin, bR, Nat.reduceEqDiff, reduceIte, Int.reduceBNe, Int.reduceBEq]
  refine .done (hK _ ?_); clear hK K; simp only [thenQ, blockQ]
  refine AW.seq (AW.reg cd31_2 fun K hK => ?_)
  simp only [g31_2, bR, Nat.reduceEqDiff, reduceIte, Int.reduceBNe, Int.reduceBEq]
  refine .done (hK _ ?_); clear hK K; simp only [thenQ, blockQ]
  refine AW.ite ?_
  simp only [condQ, bR, Nat.reduceEqDiff, reduceIte, Int.reduceBNe, Int.reduceBEq]
  refine ⟨fun h => ?_, fun h => ?_⟩
  · cases h
  refine AW.skip ?_; simp only [thenQ, blockQ, reduceIte, Nat.reduceEqDiff]
  refine AW.seq ?_
  refine AW.seq (AW.reg cd31_4 fun K hK => ?_)
  simp only [g31_4, bR, Nat.reduceEqDiff, reduceIte, Int.reduceBNe, Int.reduceBEq]
  try simp only [typR, useR, okR, e_fin, bR, Nat.reduceEqDiff, reduceIte, Int.reduceBNe, Int.reduceBEq]
  refine .done (hK _ ?_); clear hK K; simp only [thenQ, blockQ]
  refine AW.ite ?_
  simp only [condQ, bR, Nat.reduceEqDiff, reduceIte, Int.reduceBNe, Int.reduceBEq]
  refine ⟨fun h => ?_, fun h => ?_⟩
  · refine AW.seq (AW.reg cd31_5 fun K hK => ?_)
    simp only [g31_5, bR, Nat.reduceEqDiff, reduceIte, Int.reduceBNe, Int.reduceBEq]
    refine .done (hK _ ?_); clear hK K; simp only [thenQ, blockQ]
    refine AW.ret ?_
    simp only [blockQ, thenQ, bR, Nat.reduceEqDiff, reduceIte, Int.reduceBNe, Int.reduceBEq]
    have : ¬ rs.length ≤ 60 := by simp at h; omega
    simp [ofR, hm, this, nilInt]
  have hrl : rs.length ≤ 60 := by simp at h; omega
  refine AW.skip ?_; simp only [thenQ, blockQ, reduceIte, Nat.reduceEqDiff]
  have hlen : m.given.length ≤ 1000 := by have := okM_len hm; omega
  -- from the clone on
  have key : ∀ c : Ctx, c = ⟨Try.prog, W0, D0, Try.f31.ntmps, ownE E1, E1, noY, none⟩ → AW c (.seq (.seq (.reg d31_7 g31_7) (.block 0 (.loop (.seq (.reg d31_8 g31_8) (.seq (.cond (.t 25) .skip (.exit 0)) (.seq (.block 1 (.seq (.reg d31_9 g31_9) (.seq (.seq (.reg d31_10 g31_10) (.seq (.reg d31_11 g31_11) (.cond (.t 31) (.seq (.reg d31_12 g31_12) .ret) .skip))) (.reg d31_13 g31_13)))) (.reg d31_14 g31_14))))))) (.seq (.reg d31_15 g31_15) .ret))
      (retQ [.tmp 4, .tmp 5] (.tuple [enc (ofR m rs).1, enc (ofR m rs).2])) (mkA [(1, enc rs), (2, .ptr 2 []), (7, enc m.given)] [(2, .box (enc m))]) := by
    rintro c rfl
    refine AW.seq ?_
    refine AW.seq (AW.reg cd31_7 fun K hK => ?_)
    simp only [g31_7, bR, Nat.reduceEqDiff, reduceIte, Int.reduceBNe, Int.reduceBEq]
    try simp only [typR, useR, okR, e_fin, bR, Nat.reduceEqDiff, reduceIte, Int.reduceBNe, Int.reduceBEq]
    refine .done (hK _ ?_); clear hK K; simp only [thenQ, blockQ]
    refine AW.block (AW.loop (fun i : Nat => mkA [(1, enc rs), (2, .ptr 2 []), (7, enc (ofG m rs i)), (22, enc rs), (23, .int .i64 rs.length), (24, .int .i64 i)] [(2, .box (enc m))]) (fun i => i ≤ rs.length ∧ ∀ j, j < i → okReading (rr rs j) = true) (fun i => rs.length - i) 0 ⟨by omega, fun j h => by omega⟩ ?_ (fun i hi => ?_))
    · rw [ofG_zero]
      refine Sub.of_lists ?_ ?_ ?_ ?_ <;> simp [subT, subO, onlyT, onlyO, isIn, look_cons, lookO_cons, lookO_nil, AV.only, AV.onlys, AO.only, onlys_map, onlys_append, e_only, e_int, e_bool]
    refine AW.seq (AW.reg cd31_8 fun K hK => ?_)
    simp only [g31_8, bR, Nat.reduceEqDiff, reduceIte, Int.reduceBNe, Int.reduceBEq]
    refine .done (hK _ ?_); clear hK K; simp only [thenQ, blockQ]
    refine AW.seq ?_
    refine AW.ite ?_
    simp only [condQ, bR, Nat.reduceEqDiff, reduceIte, Int.reduceBNe, Int.reduceBEq]
    refine ⟨fun h => ?_, fun h => ?_⟩
    case refine_2.refine_2 =>
      have hge : i = rs.length := by simp at h; omega
      subst hge
      have hok : okRs rs = true := all_true hi.2
      refine AW.exit ?_; simp only [thenQ, blockQ, reduceIte, Nat.reduceEqDiff]
      refine AW.seq (AW.reg cd31_15 fun K hK => ?_)
      simp only [g31_15, bR, Nat.reduceEqDiff, reduceIte, Int.reduceBNe, Int.reduceBEq]
      try simp only [typR, useR, okR, e_fin, bR, Nat.reduceEqDiff, reduceIte, Int.reduceBNe, Int.reduceBEq]
      refine .lead _ (F72 (ofG m rs rs.length) (Nat.le_trans (ofG_len _ _ _) hlen)) ?_
      try simp only [typR, useR, okR, e_fin, bR, Nat.reduceEqDiff, reduceIte, Int.reduceBNe, Int.reduceBEq]
      refine .done (hK _ ?_); clear hK K; simp only [thenQ, blockQ]
      refine AW.ret ?_
      simp only [blockQ, thenQ, bR, Nat.reduceEqDiff, reduceIte, Int.reduceBNe, Int.reduceBEq]
      simp only [e_fin, bR, Nat.reduceEqDiff, reduceIte, Int.reduceBNe, Int.reduceBEq]
      simp [ofR, hm, hrl, hok, e_int]
    have hlt : i < rs.length := by simp at h; omega
    refine AW.skip ?_; simp only [thenQ, blockQ, reduceIte, Nat.reduceEqDiff]
    refine AW.seq (AW.block ?_)
    refine AW.seq (AW.reg cd31_9 fun K hK => ?_)
    simp only [g31_9, bR, Nat.reduceEqDiff, reduceIte, Int.reduceBNe, Int.reduceBEq]
    simp only [typR, useR, okR, isE_rr hlt, e_a6, stR3_6, bR, Nat.reduceEqDiff, reduceIte, Int.reduceBNe, Int.reduceBEq]
    refine .done (hK _ ?_); clear hK K; simp only [thenQ, blockQ]
    refine AW.seq ?_
    refine AW.seq (AW.reg cd31_10 fun K hK => ?_)
    simp only [g31_10, bR, Nat.reduceEqDiff, reduceIte, Int.reduceBNe, Int.reduceBEq]
    try simp only [typR, useR, okR, e_fin, bR, Nat.reduceEqDiff, reduceIte, Int.reduceBNe, Int.reduceBEq]
    refine .flat _ (F45 (rr rs i)) rfl ?_
    generalize hr : okReading (rr rs i) = br
    cases br
    · try simp only [typR, useR, okR, e_fin, bR, Nat.reduceEqDiff, reduceIte, Int.reduceBNe, Int.reduceBEq]
      refine .done (hK _ ?_); clear hK K; simp only [thenQ, blockQ]
      refine AW.seq (AW.reg cd31_11 fun K hK => ?_)
      simp only [g31_11, bR, Nat.reduceEqDiff, reduceIte, Int.reduceBNe, Int.reduceBEq]
      refine .done (hK _ ?_); clear hK K; simp only [thenQ, blockQ]
      refine AW.ite ?_
      simp only [condQ, bR, Nat.reduceEqDiff, reduceIte, Int.reduceBNe, Int.reduceBEq]
      refine ⟨fun h => ?_, fun h => ?_⟩
      · refine AW.seq (AW.reg cd31_12 fun K hK => ?_)
        simp only [g31_12, bR, Nat.reduceEqDiff, reduceIte, Int.reduceBNe, Int.reduceBEq]
        refine .done (hK _ ?_); clear hK K; simp only [thenQ, blockQ]
        refine AW.ret ?_
        simp only [blockQ, thenQ, bR, Nat.reduceEqDiff, reduceIte, Int.reduceBNe, Int.reduceBEq]
        have hok : okRs rs = false := all_false i hlt hr
        simp [ofR, hm, hrl, hok, nilInt]
      · cases h
    try simp only [typR, useR, okR, e_fin, bR, Nat.reduceEqDiff, reduceIte, Int.reduceBNe, Int.reduceBEq]
    refine .done (hK _ ?_); clear hK K; simp only [thenQ, blockQ]
    refine AW.seq (AW.reg cd31_11 fun K hK => ?_)
    simp only [g31_11, bR, Nat.reduceEqDiff, reduceIte, Int.reduceBNe, Int.reduceBEq]
    refine .done (hK _ ?_); clear hK K; simp only [thenQ, blockQ]
    refine AW.ite ?_
    simp only [condQ, bR, Nat.reduceEqDiff, reduceIte, Int.reduceBNe, Int.reduceBEq]
    refine ⟨fun h => ?_, fun h => ?_⟩
    · cases h
    refine AW.skip ?_; simp only [thenQ, blockQ, reduceIte, Nat.reduceEqDiff]
    have hof : ∀ j, j < i + 1 → okReading (rr rs j) = true := fun j hj => by
      rcases Nat.lt_or_ge j i with h1 | h1
      · exact hi.2 j h1
      · have : j = i := by omega
        subst this; exact hr
    refine AW.reg cd31_13 fun K hK => ?_
    simp only [g31_13, bR, Nat.reduceEqDiff, reduceIte, Int.reduceBNe, Int.reduceBEq]
    simp only [typR, useR, okR, e_fin, bldM3, e_a5, e_M, bR, Nat.reduceEqDiff, reduceIte, Int.reduceBNe, Int.reduceBEq]
    refine .obj false [(7, 40)] [] [enc (⟨m.wear, m.fls, ofG m rs i⟩ : Marks), enc (rr rs i)] (possPost 7 ⟨m.wear, m.fls, ofG m rs i⟩ (rr rs i)) rfl (F65 ⟨m.wear, m.fls, ofG m rs i⟩ (rr rs i) (fun g hg => okM_mark hm g (ofG_mem hg)) (Nat.le_trans (ofG_len m rs i) hlen)) Gvn.nil ⟨.inl ⟨(e_ren _ _).symm, e_only _ _, e_isVal _⟩, .inl ⟨(e_ren _ _).symm, e_only _ _, e_isVal _⟩, trivial⟩ ?_ ?_
    · rintro x os' (⟨_, rfl, rfl⟩ | ⟨k, rfl, rfl⟩)
      · exact Bck.nil (fun _ => rfl) (fun h => by cases h)
      · exact Bck.new1 (fun p => map_only p _) (fun h => by cases h) rfl (fun h => by cases h) rfl (by decide)
    · rintro x os' (⟨hp, rfl, rfl⟩ | ⟨k, rfl, rfl⟩)
      · simp only [e_ren, renR, List.nil_append, e_fin, bR, Nat.reduceEqDiff, reduceIte, Int.reduceBNe, Int.reduceBEq]
        refine .done (hK _ ?_); clear hK K; simp only [thenQ, blockQ]
        refine AW.reg cd31_14 fun K hK => ?_
        simp only [g31_14, bR, Nat.reduceEqDiff, reduceIte, Int.reduceBNe, Int.reduceBEq]
        refine .done (hK _ ?_); clear hK K; simp only [thenQ, blockQ]
        refine ⟨i + 1, ⟨by omega, hof⟩, by omega, ?_⟩
        rw [wrap_id _ (by omega) (by omega), ofG_succ, hp]
        refine Sub.of_lists ?_ ?_ ?_ ?_ <;> simp [subT, subO, onlyT, onlyO, isIn, look_cons, lookO_cons, lookO_nil, AV.only, AV.onlys, AO.only, onlys_map, onlys_append, e_only, e_int, e_bool]
      · simp only [rowG, renR, rens_map_enc, List.cons_append, List.nil_append, bR, Nat.reduceEqDiff, reduceIte, Int.reduceBNe, Int.reduceBEq]
        refine .done (hK _ ?_); clear hK K; simp only [thenQ, blockQ]
        refine AW.reg cd31_14 fun K hK => ?_
        simp only [g31_14, bR, Nat.reduceEqDiff, reduceIte, Int.reduceBNe, Int.reduceBEq]
        refine .done (hK _ ?_); clear hK K; simp only [thenQ, blockQ]
        refine ⟨i + 1, ⟨by omega, hof⟩, by omega, ?_⟩
        rw [wrap_id _ (by omega) (by omega), ofG_succ]
        refine Sub.freeL (y := enc (possG ⟨m.wear, m.fls, ofG m rs i⟩ (rr rs i))) [40] 7 rfl ?_ ?_ ?_ ?_ ?_ ?_
        · simp only [keepO, List.filter_cons, List.filter_nil, List.contains_cons, List.contains_nil, Nat.reduceBEq, Bool.or_false, Bool.or_true, Bool.true_or, BEq.rfl, finV_take (α := Given) (sz := 7) rfl, take_row, bR, Nat.reduceEqDiff, reduceIte, Int.reduceBNe, Int.reduceBEq]
        · simp [dropO, onlyO, AO.only, e_only]
        · simp [subT, fgt, look_cons, AV.only, e_only]
        · simp [subO, dropO, lookO_cons]
        · simp [onlyT, isIn, lookO_cons, AV.only, e_only]
        · simp [onlyO, AO.only, e_only]
  refine AW.seq (AW.reg cd31_6 fun K hK => ?_)
  simp only [g31_6, bR, Nat.reduceEqDiff, reduceIte, Int.reduceBNe, Int.reduceBEq]
  try simp only [typR, useR, okR, e_fin, bR, Nat.reduceEqDiff, reduceIte, Int.reduceBNe, Int.reduceBEq]
  refine .obj false [(7, 21)] [] [enc m.given] (clonePost m.given) rfl (F85 m.given hlen) Gvn.nil ⟨.inl ⟨(e_ren _ _).symm, e_only _ _, e_isVal _⟩, trivial⟩ ?_ ?_
  · rintro x os' (⟨_, h | h, rfl⟩ | ⟨_, k, rfl, rfl⟩)
    · subst h; exact Bck.nil (fun _ => rfl) (fun h => by cases h)
    · subst h; exact Bck.nil (fun _ => rfl) (fun h => by cases h)
    · exact Bck.new1 (fun p => map_only p _) (fun h => by cases h) rfl (fun h => by cases h) rfl (by decide)
  · rintro x os' (⟨hn, h, rfl⟩ | ⟨hn, k, rfl, rfl⟩)
    · have hren : ∀ x : AV, (x = .nils 7 ∨ x = .c0 7) → x.ren (rnm [(7, 21)]) = x := by rintro x (rfl | rfl) <;> simp only [AV.ren]
      rw [hren x h]
      simp only [renR, List.nil_append, bR, Nat.reduceEqDiff, reduceIte, Int.reduceBNe, Int.reduceBEq]
      refine .done (hK _ ?_); clear hK K; simp only [thenQ, blockQ]
      refine AW.sub (Sub.freeL (y := enc m.given) [] 7 rfl ?_ ?_ ?_ ?_ ?_ ?_) (key _ rfl)
      · rw [hn]; rcases h with rfl | rfl <;> simp only [fin, e_list, List.map_nil] <;> rfl
      · simp [dropO, onlyO, AO.only, e_only]
      · simp [subT, fgt, look_cons, AV.only, e_only]
      · simp [subO, dropO, lookO_cons]
      · simp [onlyT, isIn, lookO_cons, AV.only, e_only]
      · simp [onlyO, AO.only, e_only]
    · simp only [rowG, renR, rens_map_enc, List.cons_append, List.nil_append, bR, Nat.reduceEqDiff, reduceIte, Int.reduceBNe, Int.reduceBEq]
      refine .done (hK _ ?_); clear hK K; simp only [thenQ, blockQ]
      refine AW.sub (Sub.freeL (y := enc m.given) [21] 7 rfl ?_ ?_ ?_ ?_ ?_ ?_) (key _ rfl)
      · simp only [keepO, List.filter_cons, List.filter_nil, List.contains_cons, List.contains_nil, Nat.reduceBEq, Bool.or_false, Bool.or_true, Bool.true_or, BEq.rfl, finV_take (α := Given) (sz := 7) rfl, take_row, bR, Nat.reduceEqDiff, reduceIte, Int.reduceBNe, Int.reduceBEq]
      · simp [dropO, onlyO, AO.only, e_only]
      · simp [subT, fgt, look_cons, AV.only, e_only]
      · simp [subO, dropO, lookO_cons]
      · simp [onlyT, isIn, lookO_cons, AV.only, e_only]
      · simp [onlyO, AO.only, e_only]

end Go.Proofs.Ytkjkbpgdpnapfaa

/-
  FUNCTIONS OF THE REFERENCE BY CONTRACT: Of.
-/
namespace Go.Proofs.Ytkjkbpgdpnapfaa
open Go Go.Abs
open Go.Abs.Enc (enc)

def due (m : Marks) (rs : List (Arr 6 Int)) (g : Given) : Bool := (List.range rs.length).all (dueAt m rs g)
def ownOf (m : Marks) (rs : List (Arr 6 Int)) (n : Nat) : List Int := ((m.given.take n).filter (due m rs)).map (·.owner)
theorem ownOf_zero (m : Marks) (rs : List (Arr 6 Int)) : ownOf m rs 0 = [] := by simp [ownOf]
theorem ownOf_succ {m : Marks} (rs : List (Arr 6 Int)) {n : Nat} (h : n < m.given.length) : ownOf m rs (n + 1) = ownOf m rs n ++ if due m rs (gv m n) then [(gv m n).owner] else [] := by
  simp only [ownOf]
  rw [List.take_succ_eq_append_getElem h, List.filter_append, List.map_append, gv_eq h]
  congr 1
  simp only [List.filter_cons, List.filter_nil]
  cases due m rs (gv m n) <;> rfl
theorem ownOf_len (m : Marks) (rs : List (Arr 6 Int)) (n : Nat) : (ownOf m rs n).length ≤ m.given.length := by
  simp only [ownOf, List.length_map]
  exact Nat.le_trans (List.length_filter_le _ _) (by rw [List.length_take]; omega)
theorem ownOf_all (m : Marks) (rs : List (Arr 6 Int)) : ownOf m rs m.given.length = (ofG m rs rs.length).map (·.owner) := by
  simp only [ownOf, List.take_length]; rfl
theorem all_range_succ (p : Nat → Bool) (n : Nat) : (List.range (n + 1)).all p = ((List.range n).all p && p n) := by
  rw [List.range_succ, List.all_append]; simp

theorem F32 (m : Marks) (rs : List (Arr 6 Int)) : Ctr Try.prog 32 [enc m, enc rs] (.tuple [enc (ofR m rs).1, enc (ofR m rs).2]) := by
  refine Ctr.mk' Try.func32 ca32 cc32 cr32 (Nat.le_of_ble_eq_true rfl) (fun hwf W0 D0 E1 => ?_)
  simp only [c32, r32, idx, Nat.zero_add, Nat.reduceAdd]
  refine AW.seq (AW.reg cd32_0 fun K hK => ?_)
  simp only [g32_0, bR, Nat.reduceEqDiff, reduceIte, Int.reduceBNe, Int.reduceBEq]
  simp only [e_isVal, bR, Nat.reduceEqDiff, reduceIte, Int.reduceBNe, Int.reduceBEq]
  refine .done (hK _ ?_); clear hK K; simp only [thenQ, blockQ]
  refine AW.seq ?_
  refine AW.seq ?_
  refine AW.reg cd32_1 fun K hK => ?_
  simp only [g32_1, bR, Nat.reduceEqDiff, reduceIte, Int.reduceBNe, Int.reduceBEq]
  try simp only [typR, useR, okR, e_fin, bR, Nat.reduceEqDiff, reduceIte, Int.reduceBNe, Int.reduceBEq]
  refine .flat _ (F48 m) rfl ?_
  generalize hm : okM m = bm
  cases bm
  · try simp only [typR, useR, okR, e_fin, bR, Nat.reduceEqDiff, reduceIte, Int.reduceBNe, Int.reduceBEq]
    refine .done (hK _ ?_); clear hK K; simp only [thenQ, blockQ]
    refine AW.ite ?_
    simp only [condQ, bR, Nat.reduceEqDiff, reduceIte, Int.reduceBNe, Int.reduceBEq]
    refine ⟨fun h => ?_, fun h => ?_⟩
    · refine AW.seq (AW.reg cd32_2 fun K hK => ?_)
      simp only [g32_2, bR, Nat.reduceEqDiff, reduceIte, Int.reduceBNe, Int.reduceBEq]
      refine .done (hK _ ?_); clear hK K; simp only [thenQ, blockQ]
      refine AW.ret ?_
      simp only [blockQ, thenQ, bR, Nat.reduceEqDiff, reduceIte, Int.reduceBNe, Int.reduceBEq]
      simp [ofR, hm, nilInt]
    · cases h
  try simp only [typR, useR, okR, e_fin, bR, Nat.reduceEqDiff, reduceIte, Int.reduceBNe, Int.reduceBEq]
  refine .done (hK _ ?_); clear hK K; simp only [thenQ, blockQ]
  refine AW.ite ?_
  simp only [condQ, bR, Nat.reduceEqDiff, reduceIte, Int.reduceBNe, Int.reduceBEq]
  refine ⟨fun h => ?_, fun h => ?_⟩
  · cases h
  refine AW.skip ?_; simp only [thenQ, blockQ, reduceIte, Nat.reduceEqDiff]
  refine AW.seq ?_
  refine AW.seq (AW.reg cd32_3 fun K hK => ?_)
  simp only [g32_3, bR, Nat.reduceEqDiff, reduceIte, Int.reduceBNe, Int.reduceBEq]
  try simp only [typR, useR, okR, e_fin, bR, Nat.reduceEqDiff, reduceIte, Int.reduceBNe, Int.reduceBEq]
  refine .done (hK _ ?_); clear hK K; simp only [thenQ, blockQ]
  refine AW.ite ?_
  simp only [condQ, bR, Nat.reduceEqDiff, reduceIte, Int.reduceBNe, Int.reduceBEq]
  refine ⟨fun h => ?_, fun h => ?_⟩
  · refine AW.seq (AW.reg cd32_4 fun K hK => ?_)
    simp only [g32_4, bR, Nat.reduceEqDiff, reduceIte, Int.reduceBNe, Int.reduceBEq]
    refine .done (hK _ ?_); clear hK K; simp only [thenQ, blockQ]
    refine AW.ret ?_
    simp only [blockQ, thenQ, bR, Nat.reduceEqDiff, reduceIte, Int.reduceBNe, Int.reduceBEq]
    have : ¬ rs.length ≤ 60 := by simp at h; omega
    simp [ofR, hm, this, nilInt]
  have hrl : rs.length ≤ 60 := by simp at h; omega
  have hlen := okM_len hm
  refine AW.skip ?_; simp only [thenQ, blockQ, reduceIte, Nat.reduceEqDiff]
  refine AW.seq ?_
  refine AW.seq (AW.reg cd32_5 fun K hK => ?_)
  simp only [g32_5, bR, Nat.reduceEqDiff, reduceIte, Int.reduceBNe, Int.reduceBEq]
  refine .done (hK _ ?_); clear hK K; simp only [thenQ, blockQ]
  refine AW.block (AW.loop (fun i : Nat => mkA [(1, enc rs), (2, .ptr 2 []), (6, .int .i64 i)] [(2, .box (enc m))]) (fun i => i ≤ rs.length ∧ ∀ j, j < i → okReading (rr rs j) = true) (fun i => rs.length - i) 0 ⟨by omega, fun j h => by omega⟩ ?_ (fun i hi => ?_))
  · refine Sub.of_lists ?_ ?_ ?_ ?_ <;> simp [subT, subO, onlyT, onlyO, isIn, look_cons, lookO_cons, lookO_nil, AV.only, AV.onlys, AO.only, onlys_map, onlys_append, e_only, e_int, e_bool]
  refine AW.seq (AW.seq ?_)
  refine AW.reg cd32_6 fun K hK => ?_
  simp only [g32_6, bR, Nat.reduceEqDiff, reduceIte, Int.reduceBNe, Int.reduceBEq]
  try simp only [typR, useR, okR, e_fin, bR, Nat.reduceEqDiff, reduceIte, Int.reduceBNe, Int.reduceBEq]
  refine .done (hK _ ?_); clear hK K; simp only [thenQ, blockQ]
  refine AW.ite ?_
  simp only [condQ, bR, Nat.reduceEqDiff, reduceIte, Int.reduceBNe, Int.reduceBEq]
  refine ⟨fun h => ?_, fun h => ?_⟩
  · have hlt : i < rs.length := by simp at h; omega
    refine AW.skip ?_; simp only [thenQ, blockQ, reduceIte, Nat.reduceEqDiff]
    refine AW.seq (AW.block ?_)
    refine AW.seq (AW.reg cd32_7 fun K hK => ?_)
    simp only [g32_7, bR, Nat.reduceEqDiff, reduceIte, Int.reduceBNe, Int.reduceBEq]
    simp only [typR, useR, okR, e_fin, isE_rr hlt, bR, Nat.reduceEqDiff, reduceIte, Int.reduceBNe, Int.reduceBEq]
    refine .flat _ (F46' (rr rs i)) rfl ?_
    generalize hr : okReading (rr rs i) = br
    cases br
    · try simp only [typR, useR, okR, e_fin, bR, Nat.reduceEqDiff, reduceIte, Int.reduceBNe, Int.reduceBEq]
      refine .done (hK _ ?_); clear hK K; simp only [thenQ, blockQ]
      refine AW.ite ?_
      simp only [condQ, bR, Nat.reduceEqDiff, reduceIte, Int.reduceBNe, Int.reduceBEq]
      refine ⟨fun h => ?_, fun h => ?_⟩
      · refine AW.seq (AW.reg cd32_8 fun K hK => ?_)
        simp only [g32_8, bR, Nat.reduceEqDiff, reduceIte, Int.reduceBNe, Int.reduceBEq]
        refine .done (hK _ ?_); clear hK K; simp only [thenQ, blockQ]
        refine AW.ret ?_
        simp only [blockQ, thenQ, bR, Nat.reduceEqDiff, reduceIte, Int.reduceBNe, Int.reduceBEq]
        have hok : okRs rs = false := all_false i hlt hr
        simp [ofR, hm, hrl, hok, nilInt]
      · cases h
    try simp only [typR, useR, okR, e_fin, bR, Nat.reduceEqDiff, reduceIte, Int.reduceBNe, Int.reduceBEq]
    refine .done (hK _ ?_); clear hK K; simp only [thenQ, blockQ]
    refine AW.ite ?_
    simp only [condQ, bR, Nat.reduceEqDiff, reduceIte, Int.reduceBNe, Int.reduceBEq]
    refine ⟨fun h => ?_, fun h => ?_⟩
    · cases h
    refine AW.skip ?_; simp only [thenQ, blockQ, reduceIte, Nat.reduceEqDiff]
    refine AW.reg cd32_9 fun K hK => ?_
    simp only [g32_9, bR, Nat.reduceEqDiff, reduceIte, Int.reduceBNe, Int.reduceBEq]
    refine .done (hK _ ?_); clear hK K; simp only [thenQ, blockQ]
    refine ⟨i + 1, ⟨by omega, fun j hj => ?_⟩, by omega, ?_⟩
    · rcases Nat.lt_or_ge j i with h1 | h1
      · exact hi.2 j h1
      · have : j = i := by omega
        subst this; exact hr
    · rw [wrap_id _ (by omega) (by omega)]
      refine Sub.of_lists ?_ ?_ ?_ ?_ <;> simp [subT, subO, onlyT, onlyO, isIn, look_cons, lookO_cons, lookO_nil, AV.only, AV.onlys, AO.only, onlys_map, onlys_append, e_only, e_int, e_bool]
  have hge : i = rs.length := by simp at h; omega
  subst hge
  have hok : okRs rs = true := all_true hi.2
  refine AW.exit ?_; simp only [thenQ, blockQ, reduceIte, Nat.reduceEqDiff]
  refine AW.seq (AW.reg cd32_10 fun K hK => ?_)
  simp only [g32_10, bR, Nat.reduceEqDiff, reduceIte, Int.reduceBNe, Int.reduceBEq]
  refine .done (hK _ ?_); clear hK K; simp only [thenQ, blockQ]
  refine AW.seq ?_
  refine AW.seq (AW.reg cd32_11 fun K hK => ?_)
  simp only [g32_11, bR, Nat.reduceEqDiff, reduceIte, Int.reduceBNe, Int.reduceBEq]
  refine .done (hK _ ?_); clear hK K; simp only [thenQ, blockQ]
  refine AW.block (AW.loop (fun n : Nat => mkA [(1, enc rs), (2, .ptr 2 []), (7, .own 7 (ownOf m rs n).length), (8, .int .i64 n)] [(7, .row 3 1 ((ownOf m rs n).map enc)), (2, .box (enc m))]) (fun n => n ≤ m.given.length) (fun n => m.given.length - n) 0 (by omega) ?_ (fun n hn => ?_))
  · refine Sub.adoptL 7 7 3 1 1 ?_ ?_ ?_
    · simp only [bR, Nat.reduceEqDiff, reduceIte, Int.reduceBNe, Int.reduceBEq]
    · simp only [bR, Nat.reduceEqDiff, reduceIte, Int.reduceBNe, Int.reduceBEq]
    · simp only [ownOf_zero, List.map_nil, List.length_nil]
      refine Sub.of_lists ?_ ?_ ?_ ?_ <;> simp [subT, subO, onlyT, onlyO, isIn, look_cons, lookO_cons, lookO_nil, AV.only, AV.onlys, AO.only, onlys_map, onlys_append, e_only, e_int, e_bool]
  refine AW.seq (AW.seq ?_)
  refine AW.reg cd32_12 fun K hK => ?_
  simp only [g32_12, bR, Nat.reduceEqDiff, reduceIte, Int.reduceBNe, Int.reduceBEq]
  try simp only [typR, useR, okR, e_fin, bR, Nat.reduceEqDiff, reduceIte, Int.reduceBNe, Int.reduceBEq]
  refine .done (hK _ ?_); clear hK K; simp only [thenQ, blockQ]
  refine AW.ite ?_
  simp only [condQ, bR, Nat.reduceEqDiff, reduceIte, Int.reduceBNe, Int.reduceBEq]
  refine ⟨fun h => ?_, fun h => ?_⟩
  · have hlt : n < m.given.length := by simp at h; omega
    refine AW.skip ?_; simp only [thenQ, blockQ, reduceIte, Nat.reduceEqDiff]
    refine AW.seq (AW.block ?_)
    refine AW.seq (AW.reg cd32_13 fun K hK => ?_)
    simp only [g32_13, bR, Nat.reduceEqDiff, reduceIte, Int.reduceBNe, Int.reduceBEq]
    refine .done (hK _ ?_); clear hK K; simp only [thenQ, blockQ]
    refine AW.seq ?_
    refine AW.seq (AW.reg cd32_14 fun K hK => ?_)
    simp only [g32_14, bR, Nat.reduceEqDiff, reduceIte, Int.reduceBNe, Int.reduceBEq]
    refine .done (hK _ ?_); clear hK K; simp only [thenQ, blockQ]
    refine AW.block (AW.loop (fun j : Nat => mkA [(1, enc rs), (2, .ptr 2 []), (7, .own 7 (ownOf m rs n).length), (8, .int .i64 n), (9, .bool ((List.range j).all (dueAt m rs (gv m n)))), (10, .int .i64 j)] [(7, .row 3 1 ((ownOf m rs n).map enc)), (2, .box (enc m))]) (fun j => j ≤ rs.length) (fun j => rs.length - j) 0 (by omega) ?_ (fun j hj => ?_))
    · refine Sub.of_lists ?_ ?_ ?_ ?_ <;> simp [subT, subO, onlyT, onlyO, isIn, look_cons, lookO_cons, lookO_nil, AV.only, AV.onlys, AO.only, onlys_map, onlys_append, e_only, e_int, e_bool]
    refine AW.seq (AW.seq ?_)
    refine AW.reg cd32_15 fun K hK => ?_
    simp only [g32_15, bR, Nat.reduceEqDiff, reduceIte, Int.reduceBNe, Int.reduceBEq]
    try simp only [typR, useR, okR, e_fin, bR, Nat.reduceEqDiff, reduceIte, Int.reduceBNe, Int.reduceBEq]
    refine .done (hK _ ?_); clear hK K; simp only [thenQ, blockQ]
    refine AW.ite ?_
    simp only [condQ, bR, Nat.reduceEqDiff, reduceIte, Int.reduceBNe, Int.reduceBEq]
    refine ⟨fun h => ?_, fun h => ?_⟩
    · have hjl : j < rs.length := by simp at h; omega
      refine AW.skip ?_; simp only [thenQ, blockQ, reduceIte, Nat.reduceEqDiff]
      refine AW.seq (AW.block ?_)
      have hsucc := all_range_succ (dueAt m rs (gv m n)) j
      generalize hb : (List.range j).all (dueAt m rs (gv m n)) = b at hsucc
      refine AW.reg cd32_16 fun K hK => ?_
      simp only [g32_16, bR, Nat.reduceEqDiff, reduceIte, Int.reduceBNe, Int.reduceBEq]
      cases b
      · try simp only [typR, useR, okR, e_fin, bR, Nat.reduceEqDiff, reduceIte, Int.reduceBNe, Int.reduceBEq]
        refine .done (hK _ ?_); clear hK K; simp only [thenQ, blockQ]
        refine AW.reg cd32_17 fun K hK => ?_
        simp only [g32_17, bR, Nat.reduceEqDiff, reduceIte, Int.reduceBNe, Int.reduceBEq]
        refine .done (hK _ ?_); clear hK K; simp only [thenQ, blockQ]
        refine ⟨j + 1, by omega, by omega, ?_⟩
        rw [hsucc, wrap_id _ (by omega) (by omega), Bool.false_and]
        refine Sub.of_lists ?_ ?_ ?_ ?_ <;> simp [subT, subO, onlyT, onlyO, isIn, look_cons, lookO_cons, lookO_nil, AV.only, AV.onlys, AO.only, onlys_map, onlys_append, e_only, e_int, e_bool]
      · simp only [typR, useR, okR, isE_gv hlt, isE_rr hjl, e_fin, bR, Nat.reduceEqDiff, reduceIte, Int.reduceBNe, Int.reduceBEq]
        refine .flat _ (F86 m.wear (gv m n).mark (rr rs j) (by rw [← gv_eq hlt]; exact okM_mark hm _ (List.getElem_mem hlt))) rfl ?_
        try simp only [typR, useR, okR, e_fin, bR, Nat.reduceEqDiff, reduceIte, Int.reduceBNe, Int.reduceBEq]
        refine .done (hK _ ?_); clear hK K; simp only [thenQ, blockQ]
        refine AW.reg cd32_17 fun K hK => ?_
        simp only [g32_17, bR, Nat.reduceEqDiff, reduceIte, Int.reduceBNe, Int.reduceBEq]
        refine .done (hK _ ?_); clear hK K; simp only [thenQ, blockQ]
        refine ⟨j + 1, by omega, by omega, ?_⟩
        have hd : decide (costOf m.wear (gv m n).mark (rr rs j) ≤ m.fls) = dueAt m rs (gv m n) j := rfl
        rw [hsucc, wrap_id _ (by omega) (by omega), Bool.true_and, hd]
        refine Sub.of_lists ?_ ?_ ?_ ?_ <;> simp [subT, subO, onlyT, onlyO, isIn, look_cons, lookO_cons, lookO_nil, AV.only, AV.onlys, AO.only, onlys_map, onlys_append, e_only, e_int, e_bool]
    have hje : j = rs.length := by simp at h; omega
    subst hje
    refine AW.exit ?_; simp only [thenQ, blockQ, reduceIte, Nat.reduceEqDiff]
    have hdue : (List.range rs.length).all (dueAt m rs (gv m n)) = due m rs (gv m n) := rfl
    have hol := ownOf_len m rs n
    have hsucc := ownOf_succ rs hlt
    rw [hdue]
    generalize hb : due m rs (gv m n) = b at hsucc
    refine AW.seq (AW.reg cd32_18 fun K hK => ?_)
    simp only [g32_18, bR, Nat.reduceEqDiff, reduceIte, Int.reduceBNe, Int.reduceBEq]
    refine .done (hK _ ?_); clear hK K; simp only [thenQ, blockQ]
    cases b
    · refine AW.ite ?_
      simp only [condQ, bR, Nat.reduceEqDiff, reduceIte, Int.reduceBNe, Int.reduceBEq]
      refine ⟨fun h => ?_, fun h => ?_⟩
      · cases h
      refine AW.skip ?_; simp only [thenQ, blockQ, reduceIte, Nat.reduceEqDiff]
      refine AW.reg cd32_20 fun K hK => ?_
      simp only [g32_20, bR, Nat.reduceEqDiff, reduceIte, Int.reduceBNe, Int.reduceBEq]
      refine .done (hK _ ?_); clear hK K; simp only [thenQ, blockQ]
      refine ⟨n + 1, by omega, by omega, ?_⟩
      rw [hsucc, wrap_id _ (by omega) (by omega)]
      simp only [Bool.false_eq_true, if_false, List.append_nil]
      refine Sub.of_lists ?_ ?_ ?_ ?_ <;> simp [subT, subO, onlyT, onlyO, isIn, look_cons, lookO_cons, lookO_nil, AV.only, AV.onlys, AO.only, onlys_map, onlys_append, e_only, e_int, e_bool]
    · refine AW.ite ?_
      simp only [condQ, bR, Nat.reduceEqDiff, reduceIte, Int.reduceBNe, Int.reduceBEq]
      refine ⟨fun h => ?_, fun h => ?_⟩
      · refine AW.reg cd32_19 fun K hK => ?_
        simp only [g32_19, bR, Nat.reduceEqDiff, reduceIte, Int.reduceBNe, Int.reduceBEq]
        simp only [typR, useR, okR, isE_gv hlt, bR, Nat.reduceEqDiff, reduceIte, Int.reduceBNe, Int.reduceBEq]
        rw [appR3_enc 3 1 8 7 rfl rfl (by simp) (by simp [maxLen]; omega) (by simp; omega)]
        simp only [bR, Nat.reduceEqDiff, reduceIte, Int.reduceBNe, Int.reduceBEq]
        refine .done (hK _ ?_); clear hK K; simp only [thenQ, blockQ]
        refine AW.reg cd32_20 fun K hK => ?_
        simp only [g32_20, bR, Nat.reduceEqDiff, reduceIte, Int.reduceBNe, Int.reduceBEq]
        refine .done (hK _ ?_); clear hK K; simp only [thenQ, blockQ]
        refine ⟨n + 1, by omega, by omega, ?_⟩
        rw [hsucc, wrap_id _ (by omega) (by omega)]
        simp only [if_true]
        refine Sub.of_lists ?_ ?_ ?_ ?_ <;> simp [subT, subO, onlyT, onlyO, isIn, look_cons, lookO_cons, lookO_nil, AV.only, AV.onlys, AO.only, onlys_map, onlys_append, e_only, e_int, e_bool]
      · cases h
  have hge : n = m.given.length := by simp at h; omega
  subst hge
  refine AW.exit ?_; simp only [thenQ, blockQ, reduceIte, Nat.reduceEqDiff]
  refine AW.seq (AW.reg cd32_21 fun K hK => ?_)
  simp only [g32_21, bR, Nat.reduceEqDiff, reduceIte, Int.reduceBNe, Int.reduceBEq]
  refine .done (hK _ ?_); clear hK K; simp only [thenQ, blockQ]
  refine AW.ret ?_
  simp only [blockQ, thenQ, bR, Nat.reduceEqDiff, reduceIte, Int.reduceBNe, Int.reduceBEq]
  try simp only [e_fin, bR, Nat.reduceEqDiff, reduceIte, Int.reduceBNe, Int.reduceBEq]
  simp [ofR, hm, hrl, hok, ownOf_all, e_int]

end Go.Proofs.Ytkjkbpgdpnapfaa

/-
  THE LAW MarkOwners BY CONTRACT.
-/
namespace Go.Proofs.Ytkjkbpgdpnapfaa
open Go Go.Abs
open Go.Abs.Enc (enc)

theorem F5 (m : Marks) (r : Arr 6 Int) (rs : List (Arr 6 Int)) : Ctr Try.prog 5 [enc m, enc r, enc rs] (enc true) := by
  refine Ctr.mk' Try.func5 ca5 cc5 cr5 (Nat.le_of_ble_eq_true rfl) (fun hwf W0 D0 E1 => ?_)
  simp only [c5, r5, idx, Nat.zero_add, Nat.reduceAdd]
  refine AW.seq (AW.reg cd5_0 fun K hK => ?_)
  simp only [g5_0, bR, Nat.reduceEqDiff, reduceIte, Int.reduceBNe, Int.reduceBEq]
  simp only [e_isVal, bR, Nat.reduceEqDiff, reduceIte, Int.reduceBNe, Int.reduceBEq]
  refine .done (hK _ ?_); clear hK K; simp only [thenQ, blockQ]
  refine AW.seq (AW.reg cd5_1 fun K hK => ?_)
  simp only [g5_1, bR, Nat.reduceEqDiff, reduceIte, Int.reduceBNe, Int.reduceBEq]
  try simp only [typR, useR, okR, e_fin, bR, Nat.reduceEqDiff, reduceIte, Int.reduceBNe, Int.reduceBEq]
  refine .lead _ (F26 m r) ?_
  simp only [typR, bR, Nat.reduceEqDiff, reduceIte, Int.reduceBNe, Int.reduceBEq]
  refine .done (hK _ ?_); clear hK K; simp only [thenQ, blockQ]
  refine AW.seq (AW.reg cd5_2 fun K hK => ?_)
  simp only [g5_2, bR, Nat.reduceEqDiff, reduceIte, Int.reduceBNe, Int.reduceBEq]
  try simp only [typR, useR, okR, e_fin, bR, Nat.reduceEqDiff, reduceIte, Int.reduceBNe, Int.reduceBEq]
  refine .lead _ (F28 m r) ?_
  simp only [typR, bR, Nat.reduceEqDiff, reduceIte, Int.reduceBNe, Int.reduceBEq]
  refine .done (hK _ ?_); clear hK K; simp only [thenQ, blockQ]
  refine AW.seq (AW.reg cd5_3 fun K hK => ?_)
  simp only [g5_3, bR, Nat.reduceEqDiff, reduceIte, Int.reduceBNe, Int.reduceBEq]
  try simp only [typR, useR, okR, e_fin, bR, Nat.reduceEqDiff, reduceIte, Int.reduceBNe, Int.reduceBEq]
  refine .lead _ (F29 m r) ?_
  simp only [typR, bR, Nat.reduceEqDiff, reduceIte, Int.reduceBNe, Int.reduceBEq]
  refine .done (hK _ ?_); clear hK K; simp only [thenQ, blockQ]
  refine AW.seq (AW.reg cd5_4 fun K hK => ?_)
  simp only [g5_4, bR, Nat.reduceEqDiff, reduceIte, Int.reduceBNe, Int.reduceBEq]
  try simp only [typR, useR, okR, e_fin, bR, Nat.reduceEqDiff, reduceIte, Int.reduceBNe, Int.reduceBEq]
  refine .lead _ (F30 m r) ?_
  simp only [typR, bR, Nat.reduceEqDiff, reduceIte, Int.reduceBNe, Int.reduceBEq]
  refine .done (hK _ ?_); clear hK K; simp only [thenQ, blockQ]
  refine AW.seq (AW.reg cd5_5 fun K hK => ?_)
  simp only [g5_5, bR, Nat.reduceEqDiff, reduceIte, Int.reduceBNe, Int.reduceBEq]
  try simp only [typR, useR, okR, e_fin, bR, Nat.reduceEqDiff, reduceIte, Int.reduceBNe, Int.reduceBEq]
  refine .lead _ (F31 m rs) ?_
  simp only [typR, bR, Nat.reduceEqDiff, reduceIte, Int.reduceBNe, Int.reduceBEq]
  refine .done (hK _ ?_); clear hK K; simp only [thenQ, blockQ]
  refine AW.seq (AW.reg cd5_6 fun K hK => ?_)
  simp only [g5_6, bR, Nat.reduceEqDiff, reduceIte, Int.reduceBNe, Int.reduceBEq]
  try simp only [typR, useR, okR, e_fin, bR, Nat.reduceEqDiff, reduceIte, Int.reduceBNe, Int.reduceBEq]
  refine .lead _ (F32 m rs) ?_
  simp only [typR, bR, Nat.reduceEqDiff, reduceIte, Int.reduceBNe, Int.reduceBEq]
  refine .done (hK _ ?_); clear hK K; simp only [thenQ, blockQ]
  refine AW.seq (AW.reg cd5_7 fun K hK => ?_)
  simp only [g5_7, bR, Nat.reduceEqDiff, reduceIte, Int.reduceBNe, Int.reduceBEq]
  try simp only [typR, useR, okR, e_fin, bR, Nat.reduceEqDiff, reduceIte, Int.reduceBNe, Int.reduceBEq]
  refine .flat _ (F16 _ _) rfl ?_
  simp only [typR, useR, okR, e_fin, decide_true, BEq.rfl, bR, Nat.reduceEqDiff, reduceIte, Int.reduceBNe, Int.reduceBEq]
  refine .flat _ (F16 _ _) rfl ?_
  simp only [typR, useR, okR, e_fin, decide_true, BEq.rfl, bR, Nat.reduceEqDiff, reduceIte, Int.reduceBNe, Int.reduceBEq]
  refine .flat _ F21 rfl ?_
  simp only [typR, useR, okR, e_fin, decide_true, BEq.rfl, bR, Nat.reduceEqDiff, reduceIte, Int.reduceBNe, Int.reduceBEq]
  refine .done (hK _ ?_); clear hK K; simp only [thenQ, blockQ]
  refine AW.ret ?_
  simp only [blockQ, thenQ, bR, Nat.reduceEqDiff, reduceIte, Int.reduceBNe, Int.reduceBEq]

end Go.Proofs.Ytkjkbpgdpnapfaa

/-
  PROVED HERE: the law MarkOwners returns true for every input, and each argument reads afterwards as it read before. Conditions: none beyond the statement's own.
-/
namespace Go.Proofs.Ytkjkbpgdpnapfaa
open Go Go.Abs Go.ChangeShapes Go.WideShapes Go.ChangeAt Go.RowKit
open Go.Abs.Enc (enc)

set_option maxRecDepth 100000 in
theorem markOwners_lifted (os : Os) (started : os.Started) (H : Type) (enc0 : TypeId × Value → H) :
    ReturnsInHanded {} Try.checked os 5 .any (Rows.markOwnersSpec.pre6 enc0 Try.prog Try.f5 Rows.markOwnersRow.domain false) (Rows.markOwnersSpec.post enc0 Try.prog Try.f5 false true false false) := by
  refine returnsInHanded_of_change (C := Try.checked) Try.own started (by kernel_rfl) Try.func5
    (ChangeSpec.witness6 (enc := enc0) (C := Try.checked) false ⟨#[], #[.agg #[.int .i64 0, .int .i64 0, .int .i64 0, .int .i64 0, .int .i64 0, .int .i64 0, .slice none 0 0], .agg #[.int .i64 0, .int .i64 0, .int .i64 0, .int .i64 0, .int .i64 0, .int .i64 0], .slice none 0 0], []⟩ 8 (by kernel_rfl) (by kernel_rfl) (by kernel_rfl) (by kernel_rfl)) ?_
  intro W base args ds gs before hval0 hW hcnd _
  have hval : ∀ (j : Nat) t v, Try.f5.params[j]? = some t → args[j]? = some v → Value.okWide Try.prog W .any base t v := hval0
  have hW' := hW
  obtain ⟨p, q, hA0, hV, hbef, hfz, hnd⟩ := hW
  have hA : DataW.TrodAll enc0 Try.prog W 0 (fun _ => true) true Try.f5.params.toList args.toList ds p := hA0
  rw [Try.params5] at hA hval
  obtain ⟨v0, v1, v2, d0, d1, d2, p0, p1, p2, rfl, rfl, rfl, h0, h1, h2⟩ := trodAll_three hA
  obtain ⟨rfl, rfl⟩ := trodVars_none hV
  obtain ⟨a0, c0, k0⟩ := open_arg oMarks rfl (by kernel_rfl) (hval 0 26 v0 rfl rfl) h0
  obtain ⟨a1, c1, k1⟩ := open_arg oReading rfl (by kernel_rfl) (hval 1 28 v1 rfl rfl) h1
  obtain ⟨a2, c2, k2⟩ := open_cell oReadings rfl (by kernel_rfl) (hval 2 53 v2 rfl rfl) h2
  exact law_post (tb := 4) Try.laidOut (by rw [Try.params5]) rfl rfl (by rw [hbef]; simp) rfl rfl (by kernel_rfl) (by kernel_rfl) hW' h0 h1 h2 (by
    intro t ht
    simp only [List.mem_cons, List.mem_nil_iff, or_false] at ht
    rcases ht with rfl | rfl | rfl <;> exact ⟨by kernel_rfl, of_decide_eq_true (by kernel_rfl)⟩) (F5 a0 a1 a2) (rvs3 ⟨c0, k0⟩ ⟨c1, k1⟩ ⟨c2, k2⟩)

theorem markOwners_holds : Rows.MarkOwnersSaid :=
  OpenClaim.holds_of_wide 5 Try.f5 rfl rfl rfl rfl rfl rfl rfl ⟨rfl, rfl, rfl, rfl, rfl⟩ rfl rfl rfl rfl rfl (by kernel_rfl) Try.func5 (by kernel_rfl)
    (of_decide_eq_true (by kernel_rfl)) (by unfold Func.isWrapper; first | (rw [if_pos (by decide +kernel)]; kernel_rfl) | (rw [if_neg (by decide +kernel)]; exact ⟨rfl, rfl⟩))
    (fun os started H enc0 _ => markOwners_lifted os started H enc0)

#print axioms markOwners_holds
end Go.Proofs.Ytkjkbpgdpnapfaa

/-
  FUNCTIONS OF THE REFERENCE BY CONTRACT: MeetError, Meets.
-/
namespace Go.Proofs.Ytkjkbpgdpnapfaa
open Go Go.Abs
open Go.Abs.Enc (enc)

structure Pair where
  a : Arr 6 Int
  b : Arr 6 Int

instance : Enc Pair where
  enc p := .agg [enc p.a, enc p.b]
  sz := 12
  sh := .many [.many (List.replicate 6 .one), .many (List.replicate 6 .one)]
  isA := true
  done p := by simp only [AV.done, AV.dones, Enc.done, Bool.and_self]
  size p := by simp only [AV.size, AV.sizes, e_size, e_szArr, e_szInt]
  shp p := by simp only [AV.sh, AV.shs, e_sh, e_shArr, e_shInt]
  agg _ := rfl

theorem pairR : (∀ p : Pair, (enc p).flds = some [enc p.a, enc p.b]) ∧ (∀ (a b : Arr 6 Int) v, offR [enc a, enc b] 0 0 v = some v) ∧ (∀ (a b : Arr 6 Int) v, offR [enc a, enc b] 1 6 v = some v) ∧ (∀ p : Pair, okLd (some 12) (enc p) = true) :=
  ⟨fun _ => rfl, fun _ _ _ => offR_eq (Nat.le_of_ble_eq_true rfl) rfl, fun a b v => offR_eq (Nat.le_of_ble_eq_true rfl) (by simp [AV.sizes, e_size, e_szArr, e_szInt]), fun _ => by rw [e_okS]; rfl⟩

def meetE (w : Arr 5 Int) (n : Int) (a b : Arr 6 Int) : Int :=
  if (distR w a b).2 ≠ 0 then (distR w a b).2 else if inR 0 2 n then (if IntKind.i64.wrap (2 * n) < (distR w a b).1 then 14 else 0) else 1

theorem F53 (w : Arr 5 Int) (n : Int) (p : Pair) : Ctr Try.prog 53 [enc w, enc n, enc p] (enc (meetE w n p.a p.b)) := by
  refine Ctr.mk' Try.func53 ca53 cc53 cr53 (Nat.le_of_ble_eq_true rfl) (fun hwf W0 D0 E1 => ?_)
  simp only [c53, r53, idx, Nat.zero_add, Nat.reduceAdd]
  refine AW.seq (AW.reg cd53_0 fun K hK => ?_)
  simp only [g53_0, bR, Nat.reduceEqDiff, reduceIte, Int.reduceBNe, Int.reduceBEq]
  simp only [e_isVal, bR, Nat.reduceEqDiff, reduceIte, Int.reduceBNe, Int.reduceBEq]
  refine .done (hK _ ?_); clear hK K; simp only [thenQ, blockQ]
  refine AW.seq (AW.reg cd53_1 fun K hK => ?_)
  simp only [g53_1, bR, Nat.reduceEqDiff, reduceIte, Int.reduceBNe, Int.reduceBEq]
  simp only [typR, pairR, useR, okR, e_fin, bR, Nat.reduceEqDiff, reduceIte, Int.reduceBNe, Int.reduceBEq]
  refine .lead _ (F50 w p.a p.b) ?_
  simp only [typR, bR, Nat.reduceEqDiff, reduceIte, Int.reduceBNe, Int.reduceBEq]
  refine .done (hK _ ?_); clear hK K; simp only [thenQ, blockQ]
  generalize hd : distR w p.a p.b = d
  refine AW.seq ?_
  refine AW.seq (AW.reg cd53_2 fun K hK => ?_)
  simp only [g53_2, bR, Nat.reduceEqDiff, reduceIte, Int.reduceBNe, Int.reduceBEq]
  refine .done (hK _ ?_); clear hK K; simp only [thenQ, blockQ]
  refine AW.ite ?_
  simp only [condQ, bR, Nat.reduceEqDiff, reduceIte, Int.reduceBNe, Int.reduceBEq]
  refine ⟨fun h => ?_, fun h => ?_⟩
  · refine AW.seq (AW.reg cd53_3 fun K hK => ?_)
    simp only [g53_3, bR, Nat.reduceEqDiff, reduceIte, Int.reduceBNe, Int.reduceBEq]
    refine .done (hK _ ?_); clear hK K; simp only [thenQ, blockQ]
    refine AW.ret ?_
    simp only [blockQ, thenQ, bR, Nat.reduceEqDiff, reduceIte, Int.reduceBNe, Int.reduceBEq]
    have h1 : d.2 ≠ 0 := by simpa using h
    simp only [meetE, hd]
    rw [if_pos h1]
  have h1 : ¬ d.2 ≠ 0 := by simpa using h
  refine AW.skip ?_; simp only [thenQ, blockQ, reduceIte, Nat.reduceEqDiff]
  refine AW.seq ?_
  refine AW.seq (AW.reg cd53_4 fun K hK => ?_)
  simp only [g53_4, bR, Nat.reduceEqDiff, reduceIte, Int.reduceBNe, Int.reduceBEq]
  try simp only [typR, useR, okR, e_fin, bR, Nat.reduceEqDiff, reduceIte, Int.reduceBNe, Int.reduceBEq]
  refine .flat _ (F94' n 0 2) rfl ?_
  generalize hr : inR 0 2 n = br
  cases br
  · try simp only [typR, useR, okR, e_fin, bR, Nat.reduceEqDiff, reduceIte, Int.reduceBNe, Int.reduceBEq]
    refine .done (hK _ ?_); clear hK K; simp only [thenQ, blockQ]
    refine AW.ite ?_
    simp only [condQ, bR, Nat.reduceEqDiff, reduceIte, Int.reduceBNe, Int.reduceBEq]
    refine ⟨fun h => ?_, fun h => ?_⟩
    · refine AW.seq (AW.reg cd53_5 fun K hK => ?_)
      simp only [g53_5, bR, Nat.reduceEqDiff, reduceIte, Int.reduceBNe, Int.reduceBEq]
      refine .done (hK _ ?_); clear hK K; simp only [thenQ, blockQ]
      refine AW.ret ?_
      simp only [blockQ, thenQ, bR, Nat.reduceEqDiff, reduceIte, Int.reduceBNe, Int.reduceBEq]
      simp only [meetE, hd]
      rw [if_neg h1, hr]; rfl
    · cases h
  try simp only [typR, useR, okR, e_fin, bR, Nat.reduceEqDiff, reduceIte, Int.reduceBNe, Int.reduceBEq]
  refine .done (hK _ ?_); clear hK K; simp only [thenQ, blockQ]
  refine AW.ite ?_
  simp only [condQ, bR, Nat.reduceEqDiff, reduceIte, Int.reduceBNe, Int.reduceBEq]
  refine ⟨fun h => ?_, fun h => ?_⟩
  · cases h
  refine AW.skip ?_; simp only [thenQ, blockQ, reduceIte, Nat.reduceEqDiff]
  refine AW.seq ?_
  refine AW.seq (AW.reg cd53_6 fun K hK => ?_)
  simp only [g53_6, bR, Nat.reduceEqDiff, reduceIte, Int.reduceBNe, Int.reduceBEq]
  refine .done (hK _ ?_); clear hK K; simp only [thenQ, blockQ]
  refine AW.ite ?_
  simp only [condQ, bR, Nat.reduceEqDiff, reduceIte, Int.reduceBNe, Int.reduceBEq]
  refine ⟨fun h => ?_, fun h => ?_⟩
  · refine AW.seq (AW.reg cd53_7 fun K hK => ?_)
    simp only [g53_7, bR, Nat.reduceEqDiff, reduceIte, Int.reduceBNe, Int.reduceBEq]
    refine .done (hK _ ?_); clear hK K; simp only [thenQ, blockQ]
    refine AW.ret ?_
    simp only [blockQ, thenQ, bR, Nat.reduceEqDiff, reduceIte, Int.reduceBNe, Int.reduceBEq]
    have h2 : IntKind.i64.wrap (2 * n) < d.1 := by simpa using h
    simp only [meetE, hd]
    rw [if_neg h1, hr, if_pos rfl, if_pos h2]
  · refine AW.skip ?_; simp only [thenQ, blockQ, reduceIte, Nat.reduceEqDiff]
    refine AW.seq (AW.reg cd53_8 fun K hK => ?_)
    simp only [g53_8, bR, Nat.reduceEqDiff, reduceIte, Int.reduceBNe, Int.reduceBEq]
    refine .done (hK _ ?_); clear hK K; simp only [thenQ, blockQ]
    refine AW.ret ?_
    simp only [blockQ, thenQ, bR, Nat.reduceEqDiff, reduceIte, Int.reduceBNe, Int.reduceBEq]
    have h2 : ¬ IntKind.i64.wrap (2 * n) < d.1 := by simpa using h
    simp only [meetE, hd]
    rw [if_neg h1, hr, if_pos rfl, if_neg h2]

def sharp (m : Arr 6 Int) : Bool := (List.range 6).all (fun i => (band (m.g i) (IntKind.i64.wrap (m.g i - 1)) == 0))
theorem F100' (m : Arr 6 Int) : Ctr Try.prog 100 [enc m] (enc (sharp m)) := by
  have := F100 m
  have e : (if (List.range 6).all (fun i => (band (m.g i) (IntKind.i64.wrap (m.g i - 1)) == 0)) then true else false) = sharp m := by
    simp only [sharp]; split <;> simp_all
  rwa [e] at this
def meetsR (w : Arr 5 Int) (n : Int) (p : Pair) (r : Arr 6 Int) : Bool := okReading r && (sharp r && (decide (costOf w p.a r ≤ n) && decide (costOf w p.b r ≤ n)))

theorem F54 (w : Arr 5 Int) (n : Int) (p : Pair) (r : Arr 6 Int) (ha : okMark p.a = true) (hb : okMark p.b = true) : Ctr Try.prog 54 [enc w, enc n, enc p, enc r] (enc (meetsR w n p r)) := by
  refine Ctr.mk' Try.func54 ca54 cc54 cr54 (Nat.le_of_ble_eq_true rfl) (fun hwf W0 D0 E1 => ?_)
  simp only [c54, r54, idx, Nat.zero_add, Nat.reduceAdd]
  refine AW.seq (AW.reg cd54_0 fun K hK => ?_)
  simp only [g54_0, bR, Nat.reduceEqDiff, reduceIte, Int.reduceBNe, Int.reduceBEq]
  simp only [e_isVal, bR, Nat.reduceEqDiff, reduceIte, Int.reduceBNe, Int.reduceBEq]
  refine .done (hK _ ?_); clear hK K; simp only [thenQ, blockQ]
  refine AW.seq (AW.reg cd54_1 fun K hK => ?_)
  simp only [g54_1, bR, Nat.reduceEqDiff, reduceIte, Int.reduceBNe, Int.reduceBEq]
  try simp only [typR, useR, okR, e_fin, bR, Nat.reduceEqDiff, reduceIte, Int.reduceBNe, Int.reduceBEq]
  refine .flat _ (F46' r) rfl ?_
  generalize hr : okReading r = br
  cases br
  · try simp only [typR, useR, okR, e_fin, bR, Nat.reduceEqDiff, reduceIte, Int.reduceBNe, Int.reduceBEq]
    refine .done (hK _ ?_); clear hK K; simp only [thenQ, blockQ]
    refine AW.ret ?_
    simp only [blockQ, thenQ, bR, Nat.reduceEqDiff, reduceIte, Int.reduceBNe, Int.reduceBEq]
    simp [meetsR, hr]
  try simp only [typR, useR, okR, e_fin, bR, Nat.reduceEqDiff, reduceIte, Int.reduceBNe, Int.reduceBEq]
  refine .flat _ (F100' r) rfl ?_
  generalize hs : sharp r = bs
  cases bs
  · try simp only [typR, useR, okR, e_fin, bR, Nat.reduceEqDiff, reduceIte, Int.reduceBNe, Int.reduceBEq]
    refine .done (hK _ ?_); clear hK K; simp only [thenQ, blockQ]
    refine AW.ret ?_
    simp only [blockQ, thenQ, bR, Nat.reduceEqDiff, reduceIte, Int.reduceBNe, Int.reduceBEq]
    simp [meetsR, hr, hs]
  simp only [typR, pairR, useR, okR, e_fin, bR, Nat.reduceEqDiff, reduceIte, Int.reduceBNe, Int.reduceBEq]
  refine .flat _ (F86 w p.a r ha) rfl ?_
  try simp only [typR, useR, okR, e_fin, bR, Nat.reduceEqDiff, reduceIte, Int.reduceBNe, Int.reduceBEq]
  generalize hc : decide (costOf w p.a r ≤ n) = bc
  cases bc
  · try simp only [typR, useR, okR, e_fin, bR, Nat.reduceEqDiff, reduceIte, Int.reduceBNe, Int.reduceBEq]
    refine .done (hK _ ?_); clear hK K; simp only [thenQ, blockQ]
    refine AW.ret ?_
    simp only [blockQ, thenQ, bR, Nat.reduceEqDiff, reduceIte, Int.reduceBNe, Int.reduceBEq]
    simp [meetsR, hr, hs, hc]
  simp only [typR, pairR, useR, okR, e_fin, bR, Nat.reduceEqDiff, reduceIte, Int.reduceBNe, Int.reduceBEq]
  refine .flat _ (F86 w p.b r hb) rfl ?_
  try simp only [typR, useR, okR, e_fin, bR, Nat.reduceEqDiff, reduceIte, Int.reduceBNe, Int.reduceBEq]
  refine .done (hK _ ?_); clear hK K; simp only [thenQ, blockQ]
  refine AW.ret ?_
  simp only [blockQ, thenQ, bR, Nat.reduceEqDiff, reduceIte, Int.reduceBNe, Int.reduceBEq]
  simp [meetsR, hr, hs, hc]

end Go.Proofs.Ytkjkbpgdpnapfaa

/-
  THE LAWS' ARGUMENTS, TAKEN AS DATA: a pair of marks.
-/
namespace Go.Proofs.Ytkjkbpgdpnapfaa
open Go Go.Abs Go.ChangeShapes Go.WideShapes Go.RowKit
open Go.Abs.Enc (enc)

theorem oPair : Opens Try.prog 73 Pair := ⟨by kernel_rfl, by decide, fun h => by
  obtain ⟨a, b, hab⟩ := opens_st2 (α := Arr 6 Int) (β := Arr 6 Int) (u0 := 41) (u1 := 41) (by kernel_rfl) oMark oMark (by kernel_rfl) h
  exact ⟨⟨a, b⟩, hab⟩⟩

end Go.Proofs.Ytkjkbpgdpnapfaa

