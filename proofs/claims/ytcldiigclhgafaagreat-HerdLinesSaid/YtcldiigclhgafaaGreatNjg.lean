/-
  A part of the proof that the law HerdLines returns true for every input; conditions: none beyond the statement's own. (part 7 of 7)
-/
import Derived.Test.YtcldiigclhgafaaGreatNjf
set_option linter.unusedSimpArgs false
set_option linter.unusedVariables false
set_option maxHeartbeats 16000000
set_option maxRecDepth 100000
namespace Go.Proofs.YtcldiigclhgafaaGreat
open Go Go.Abs Go.ChangeShapes Go.WideShapes Go.ChangeAt Go.RowKit
open Go.Abs.Enc (enc)
theorem agk(os:Os)(started:os.Started)(H:Type)(enc0:TypeId×Value→H) :
  ReturnsInHanded {} Tryz.checked os 7 .any (Rows.herdLinesSpec.pre6 enc0 Tryz.prog Tryz.f7 Rows.herdLinesRow.domain false) (Rows.herdLinesSpec.post enc0 Tryz.prog Tryz.f7 false true false false):=by
 refine returnsInHanded_of_change_sized (C:=Tryz.checked) Tryz.own started (by kernel_rfl) Tryz.func7
  (ChangeSpec.witness6 (enc:=enc0) (C:=Tryz.checked) false ⟨#[],#[.slice none 0 0,.slice none 0 0,.int .i64 0],[]⟩ 8 (by kernel_rfl) (by kernel_rfl) (by kernel_rfl) (by kernel_rfl)) ?_
 intro W base args ds gs before hval0 hW hcnd hz0 _;have hval:∀ (j:Nat) t v,Tryz.f7.params[j]?=some t→args[j]?=some v→Value.okWide Tryz.prog W .any base t v:=hval0;have hz:(DataW.weightsEach Tryz.prog (Tryz.f7.params.toList++Rows.herdLinesSpec.plain.varTypes Tryz.prog) (ds++gs)).all (· ≤ reachBytes)=true:=hz0;have hW':=hW;obtain ⟨p,q,hA0,hV,hbef,hfz,hnd⟩:=hW;have hA:DataW.TrodAll enc0 Tryz.prog W 0 (fun _=>true) true Tryz.f7.params.toList args.toList ds p:=hA0;rw[Tryz.params7] at hA hval hz;obtain ⟨v0,v1,v2,d0,d1,d2,p0,p1,p2,rfl,rfl,rfl,h0,h1,h2⟩:=trodAll_three hA;obtain ⟨rfl,rfl⟩:=trodVars_none hV;obtain ⟨a0,k0,l0⟩:=K1 Ku (e:=3) (by kernel_rfl) (hval 0 29 v0 rfl rfl) h0;obtain ⟨a1,c1,k1⟩:=tM Kv rfl (by kernel_rfl) (hval 1 43 v1 rfl rfl) h1;obtain ⟨a2,c2,k2⟩:=tM tB rfl (by kernel_rfl) (hval 2 3 v2 rfl rfl) h2;have n0:=JW hz (j:=0) (t:=29) (e:=3) rfl rfl (by kernel_rfl) (of_decide_eq_true (by kernel_rfl)) l0;exact JO (tb:=4) Tryz.JN (by rw[Tryz.params7]) rfl rfl (by rw[hbef];simp) rfl rfl (by kernel_rfl) (by kernel_rfl) hW' h0 h1 h2 (by
  intro t ht;simp only[zw4,List.mem_nil_iff,or_false] at ht;rcases ht with rfl | rfl | rfl <;>exact ⟨by kernel_rfl,of_decide_eq_true (by kernel_rfl)⟩) (PC a0 a1 a2 n0) (ND k0 ⟨c1,k1⟩ ⟨c2,k2⟩)
theorem herdLines_holds:Rows.HerdLinesSaid :=
 OpenClaim.holds_of_wide 7 Tryz.f7 rfl rfl rfl rfl rfl rfl rfl ⟨rfl,rfl,rfl,rfl,rfl⟩ rfl rfl rfl rfl rfl (by kernel_rfl) Tryz.func7 (by kernel_rfl)
  (of_decide_eq_true (by kernel_rfl)) (by unfold Func.isWrapper;first | (rw[if_pos (by decide +kernel)];kernel_rfl) | (rw[if_neg (by decide +kernel)];exact ⟨rfl,rfl⟩))
  (fun os started H enc0 _=>agk os started H enc0)
#print axioms herdLines_holds
end Go.Proofs.YtcldiigclhgafaaGreat
