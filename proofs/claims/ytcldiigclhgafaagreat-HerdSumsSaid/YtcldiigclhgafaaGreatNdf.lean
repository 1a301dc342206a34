/-
  A part of the proof that the law HerdSums returns true for every input; conditions: none beyond the statement's own. (part 6 of 6)
-/
import Derived.Test.YtcldiigclhgafaaGreatNde
set_option linter.unusedSimpArgs false
set_option linter.unusedVariables false
set_option maxHeartbeats 16000000
set_option maxRecDepth 100000
namespace Go.Proofs.YtcldiigclhgafaaGreat
open Go Go.Abs Go.ChangeShapes Go.WideShapes Go.ChangeAt Go.RowKit
open Go.Abs.Enc (enc)
theorem aeU:jr Tryz.prog 130 (aM 9 Int):=JO (IC (by kernel_rfl)) xa (by kernel_rfl) (by decide)
theorem aeV:jr Tryz.prog 43 (List (aM 9 Int)):=JP (by kernel_rfl) aeU (by kernel_rfl)
theorem ad9{H:Type}{P:Program}{ts:List TypeId}{ds:List (DataW H)}(hz:(DataW.weightsEach P ts ds).all (· ≤ reachBytes)=true){j:Nat}{t e:TypeId}{d:DataW H}{n:Nat}(ht:ts[j]?=some t)(hd:ds[j]?=some d)(hu:P.underlying t=some (.slice e))(hb:8≤P.bytesOf e)
  (h:n=0∨∃ elems spare,d=.slice elems spare∧elems.length=n):n*8≤140737488355328:=by
 rcases h with h | ⟨elems,spare,rfl,h⟩
 ·omega
 ·have h1:=sized_slice hz ht hd hu
  have h2:reachBytes<2^47:=reachBytes_lt
  have h3:(elems.length+spare.length)*8≤(elems.length+spare.length)*P.bytesOf e:=Nat.mul_le_mul_left _ hb
  omega
theorem adw(os:Os)(started:os.Started)(H:Type)(enc0:TypeId×Value→H) :
  ReturnsInHanded {} Tryz.checked os 4 .any (Rows.herdSumsSpec.pre6 enc0 Tryz.prog Tryz.f4 Rows.herdSumsRow.domain false) (Rows.herdSumsSpec.post enc0 Tryz.prog Tryz.f4 false true false false):=by
 refine returnsInHanded_of_change_sized (C:=Tryz.checked) Tryz.own started (by kernel_rfl) Tryz.func4
  (ChangeSpec.witness6 (enc:=enc0) (C:=Tryz.checked) false ⟨#[],#[.slice none 0 0,.slice none 0 0,.agg #[.int .i64 0,.int .i64 0]],[]⟩ 8 (by kernel_rfl) (by kernel_rfl) (by kernel_rfl) (by kernel_rfl)) ?_
 intro W base args ds gs before hval0 hW hcnd hz0 _
 have hval:∀ (j:Nat) t v,Tryz.f4.params[j]?=some t→args[j]?=some v→Value.okWide Tryz.prog W .any base t v:=hval0
 have hz:(DataW.weightsEach Tryz.prog (Tryz.f4.params.toList++Rows.herdSumsSpec.plain.varTypes Tryz.prog) (ds++gs)).all (· ≤ reachBytes)=true:=hz0
 have hW':=hW
 obtain ⟨p,q,hA0,hV,hbef,hfz,hnd⟩:=hW
 have hA:DataW.TrodAll enc0 Tryz.prog W 0 (fun _=>true) true Tryz.f4.params.toList args.toList ds p:=hA0
 rw[Tryz.params4] at hA hval hz
 obtain ⟨v0,v1,v2,d0,d1,d2,p0,p1,p2,rfl,rfl,rfl,h0,h1,h2⟩:=trodAll_three hA
 obtain ⟨rfl,rfl⟩:=trodVars_none hV
 obtain ⟨a0,k0,l0⟩:=af4 aeS (e:=3) (by kernel_rfl) (hval 0 29 v0 rfl rfl) h0
 obtain ⟨a1,c1,k1⟩:=JN aeV rfl (by kernel_rfl) (hval 1 43 v1 rfl rfl) h1
 obtain ⟨a2,c2,k2⟩:=af3 aeT rfl (by kernel_rfl) (hval 2 28 v2 rfl rfl) h2
 have n0:=ad9 hz (j:=0) (t:=29) (e:=3) rfl rfl (by kernel_rfl) (of_decide_eq_true (by kernel_rfl)) l0
 exact ad0 (tb:=4) Tryz.adZ (by rw[Tryz.params4]) rfl rfl (by rw[hbef];simp) rfl rfl (by kernel_rfl) (by kernel_rfl) hW' h0 h1 h2 (by
  intro t ht
  simp only[List.mem_cons,List.mem_nil_iff,or_false] at ht
  rcases ht with rfl | rfl | rfl <;>exact ⟨by kernel_rfl,of_decide_eq_true (by kernel_rfl)⟩) (N6 a0 a1 a2 n0) (ag0 k0 ⟨c1,k1⟩ ⟨c2,k2⟩)
theorem herdSums_holds:Rows.HerdSumsSaid :=
 OpenClaim.holds_of_wide 4 Tryz.f4 rfl rfl rfl rfl rfl rfl rfl ⟨rfl,rfl,rfl,rfl,rfl⟩ rfl rfl rfl rfl rfl (by kernel_rfl) Tryz.func4 (by kernel_rfl)
  (of_decide_eq_true (by kernel_rfl)) (by unfold Func.isWrapper;first | (rw[if_pos (by decide +kernel)];kernel_rfl) | (rw[if_neg (by decide +kernel)];exact ⟨rfl,rfl⟩))
  (fun os started H enc0 _=>adw os started H enc0)
#print axioms herdSums_holds
end Go.Proofs.YtcldiigclhgafaaGreat
