/-
  A part of the proof that the law HerdMoves returns true for every input; conditions: none beyond the statement's own. (part 7 of 7)
-/
import Derived.Test.YtcldiigclhgafaaGreatNff
set_option linter.unusedSimpArgs false
set_option linter.unusedVariables false
set_option maxHeartbeats 16000000
set_option maxRecDepth 100000
namespace Go.Proofs.YtcldiigclhgafaaGreat
open Go Go.Abs Go.ChangeShapes Go.WideShapes Go.ChangeAt Go.RowKit
open Go.Abs.Enc (enc)
theorem amN:fI Tryz.prog 88 su:=⟨by kernel_rfl,by decide,fun h=>by
 obtain ⟨a,b,c,hab⟩:=LI (α:=Item) (β:=Int) (γ:=Int) (u0:=65) (u1:=3) (u2:=3) (by kernel_rfl) yB iS iS (by kernel_rfl) h;exact ⟨⟨a,b,c⟩,hab⟩⟩
theorem alr(os:Os)(started:os.Started)(H:Type)(enc0:TypeId×Value→H) :
  ReturnsInHanded {} Tryz.checked os 9 .any (Rows.herdMovesSpec.pre6 enc0 Tryz.prog Tryz.f9 Rows.herdMovesRow.domain false) (Rows.herdMovesSpec.post enc0 Tryz.prog Tryz.f9 false true false false):=by
 refine returnsInHanded_of_change (C:=Tryz.checked) Tryz.own started (by kernel_rfl) Tryz.func9
  (ChangeSpec.witness6 (enc:=enc0) (C:=Tryz.checked) false ⟨#[],#[.agg #[.int .i64 0,.int .i64 0,.int .i64 0,.int .i64 0,.int .i64 0,.int .i64 0,.slice none 0 0],.slice none 0 0,.agg #[.int .i64 0,.int .i64 0,.int .i64 0,.int .i64 0]],[]⟩ 8 (by kernel_rfl) (by kernel_rfl) (by kernel_rfl) (by kernel_rfl)) ?_
 intro W base args ds gs before hval0 hW hcnd _;have hval:∀ (j:Nat) t v,Tryz.f9.params[j]?=some t→args[j]?=some v→Value.okWide Tryz.prog W .any base t v:=hval0;have hW':=hW;obtain ⟨p,q,hA0,hV,hbef,hfz,hnd⟩:=hW;have hA:DataW.TrodAll enc0 Tryz.prog W 0 (fun _=>true) true Tryz.f9.params.toList args.toList ds p:=hA0;rw[Tryz.params9] at hA hval;obtain ⟨v0,v1,v2,d0,d1,d2,p0,p1,p2,rfl,rfl,rfl,h0,h1,h2⟩:=trodAll_three hA;obtain ⟨rfl,rfl⟩:=trodVars_none hV;obtain ⟨a0,c0,k0⟩:=LF amK rfl (by kernel_rfl) (hval 0 26 v0 rfl rfl) h0;obtain ⟨a1,c1,k1⟩:=anP amG rfl (by kernel_rfl) (hval 1 27 v1 rfl rfl) h1;obtain ⟨a2,c2,k2⟩:=LF amN rfl (by kernel_rfl) (hval 2 88 v2 rfl rfl) h2;exact al1 (tb:=4) Tryz.al0 (by rw[Tryz.params9]) rfl rfl (by rw[hbef];simp) rfl rfl (by kernel_rfl) (by kernel_rfl) hW' h0 h1 h2 (by
  intro t ht;simp only[zw2,List.mem_nil_iff,or_false] at ht;rcases ht with rfl | rfl | rfl <;>exact ⟨by kernel_rfl,of_decide_eq_true (by kernel_rfl)⟩) (QY a0 a1 a2) (aoW ⟨c0,k0⟩ ⟨c1,k1⟩ ⟨c2,k2⟩)
theorem herdMoves_holds:Rows.HerdMovesSaid :=
 OpenClaim.holds_of_wide 9 Tryz.f9 rfl rfl rfl rfl rfl rfl rfl ⟨rfl,rfl,rfl,rfl,rfl⟩ rfl rfl rfl rfl rfl (by kernel_rfl) Tryz.func9 (by kernel_rfl)
  (of_decide_eq_true (by kernel_rfl)) (by unfold Func.isWrapper;first | (rw[if_pos (by decide +kernel)];kernel_rfl) | (rw[if_neg (by decide +kernel)];exact ⟨rfl,rfl⟩))
  (fun os started H enc0 _=>alr os started H enc0)
#print axioms herdMoves_holds
end Go.Proofs.YtcldiigclhgafaaGreat
