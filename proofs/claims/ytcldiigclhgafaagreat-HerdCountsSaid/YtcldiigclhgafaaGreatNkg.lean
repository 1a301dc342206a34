/-
  A part of the proof that the law HerdCounts returns true for every input; conditions: none beyond the statement's own. (part 7 of 7)
-/
import Derived.Test.YtcldiigclhgafaaGreatNkf
set_option linter.unusedSimpArgs false
set_option linter.unusedVariables false
set_option maxHeartbeats 16000000
set_option maxRecDepth 100000
namespace Go.Proofs.YtcldiigclhgafaaGreat
open Go Go.Abs Go.ChangeShapes Go.WideShapes Go.ChangeAt Go.RowKit
open Go.Abs.Enc (enc)
theorem ai4:ib Tryz.prog 53 oo:=⟨by kernel_rfl,by decide,fun h=>by
 obtain ⟨vs,hv,hr⟩:=J7 [(3,0),(3,1),(3,2),(3,3)]
  [(1,fun v=>∃ a:Int,v=enc a),(1,fun v=>∃ a:Int,v=enc a),(1,fun v=>∃ a:Int,v=enc a),(1,fun v=>∃ a:Int,v=enc a)]
  (by kernel_rfl) (by simp only[qn];exact ⟨trivial,jl.bd,trivial,jl.bd,trivial,jl.bd,trivial,jl.bd,trivial⟩) (by kernel_rfl) h
 obtain ⟨v0,vs0,e0,h0,hv0⟩:=jC hv;obtain ⟨a0,f0⟩:∃ a:Int,v0=enc a:=h0;obtain ⟨v1,vs1,e1,h1,hv1⟩:=jC hv0;obtain ⟨a1,f1⟩:∃ a:Int,v1=enc a:=h1;obtain ⟨v2,vs2,e2,h2,hv2⟩:=jC hv1;obtain ⟨a2,f2⟩:∃ a:Int,v2=enc a:=h2;obtain ⟨v3,vs3,e3,h3,hv3⟩:=jC hv2;obtain ⟨a3,f3⟩:∃ a:Int,v3=enc a:=h3;have e4:=An hv3;rw[e0,e1,e2,e3,e4,f0,f1,f2,f3] at hr;exact ⟨⟨a0,a1,a2,a3⟩,hr⟩⟩
theorem ahK(os:Os)(started:os.Started)(H:Type)(enc0:TypeId×Value→H) :
  ReturnsInHanded {} Tryz.checked os 5 .any (Rows.herdCountsSpec.pre6 enc0 Tryz.prog Tryz.f5 Rows.herdCountsRow.domain false) (Rows.herdCountsSpec.post enc0 Tryz.prog Tryz.f5 false true false false):=by
 refine returnsInHanded_of_change (C:=Tryz.checked) Tryz.own started (by kernel_rfl) Tryz.func5
  (ChangeSpec.witness6 (enc:=enc0) (C:=Tryz.checked) false ⟨#[],#[.slice none 0 0,.int .i64 0,.agg #[.int .i64 0,.int .i64 0,.int .i64 0,.int .i64 0]],[]⟩ 8 (by kernel_rfl) (by kernel_rfl) (by kernel_rfl) (by kernel_rfl)) ?_
 intro W base args bC gs before hval0 hW hcnd _;have hval:∀ (j:Nat) t v,Tryz.f5.params[j]?=some t→args[j]?=some v→Value.okWide Tryz.prog W .any base t v:=hval0;have hW':=hW;obtain ⟨p,q,hA0,hV,hbef,hfz,hnd⟩:=hW;have hA:DataW.TrodAll enc0 Tryz.prog W 0 (fun _=>true) true Tryz.f5.params.toList args.toList bC p:=hA0;rw[Tryz.params5] at hA hval;obtain ⟨v0,v1,v2,d0,d1,d2,p0,p1,p2,rfl,rfl,rfl,h0,h1,h2⟩:=trodAll_three hA;obtain ⟨rfl,rfl⟩:=trodVars_none hV;obtain ⟨a0,c0,k0⟩:=J6 ai6 rfl (by kernel_rfl) (hval 0 27 v0 rfl rfl) h0;obtain ⟨a1,c1,k1⟩:=J6 jl rfl (by kernel_rfl) (hval 1 3 v1 rfl rfl) h1;obtain ⟨a2,c2,k2⟩:=akc ai4 rfl (by kernel_rfl) (hval 2 53 v2 rfl rfl) h2;exact ain (tb:=4) Tryz.aim (by rw[Tryz.params5]) rfl rfl (by rw[hbef];simp) rfl rfl (by kernel_rfl) (by kernel_rfl) hW' h0 h1 h2 (by
  intro t ht;simp only[zx8,List.mem_nil_iff,or_false] at ht;rcases ht with rfl | rfl | rfl <;>exact ⟨by kernel_rfl,of_decide_eq_true (by kernel_rfl)⟩) (OV a0 a1 a2) (alg ⟨c0,k0⟩ ⟨c1,k1⟩ ⟨c2,k2⟩)
theorem herdCounts_holds:Rows.HerdCountsSaid :=
 OpenClaim.holds_of_wide 5 Tryz.f5 rfl rfl rfl rfl rfl rfl rfl ⟨rfl,rfl,rfl,rfl,rfl⟩ rfl rfl rfl rfl rfl (by kernel_rfl) Tryz.func5 (by kernel_rfl)
  (of_decide_eq_true (by kernel_rfl)) (by unfold Func.isWrapper;first | (rw[if_pos (by decide +kernel)];kernel_rfl) | (rw[if_neg (by decide +kernel)];exact ⟨rfl,rfl⟩))
  (fun os started H enc0 _=>ahK os started H enc0)
#print axioms herdCounts_holds
end Go.Proofs.YtcldiigclhgafaaGreat
