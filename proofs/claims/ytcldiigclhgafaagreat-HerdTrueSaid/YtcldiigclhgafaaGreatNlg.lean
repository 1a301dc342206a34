/-
  A part of the proof that the law HerdTrue returns true for every input; conditions: none beyond the statement's own. (part 7 of 7)
-/
import Derived.Test.YtcldiigclhgafaaGreatNlf
set_option linter.unusedSimpArgs false
set_option linter.unusedVariables false
set_option maxHeartbeats 16000000
set_option maxRecDepth 100000
namespace Go.Proofs.YtcldiigclhgafaaGreat
open Go Go.Abs Go.ChangeShapes Go.WideShapes Go.ChangeAt Go.RowKit
open Go.Abs.Enc (enc)
theorem QM:Tryz.prog.bytesOf 3=8:=by kernel_rfl
theorem zA:kP Tryz.prog 29 (List Int) fun l=>l.length*8≤reachBytes:=by
 have h:=KC (P:=Tryz.prog) (t:=29) (e:=3) (by kernel_rfl) xp.KB (by kernel_rfl);exact ⟨h.cells,h.qL,fun hx hw=>by
  obtain ⟨a,⟨-,h2⟩,h3⟩:=h.lD hx hw;rw[QM] at h2;exact ⟨a,h2,h3⟩⟩
theorem P5:kP Tryz.prog 57 (List (List Int)) fun l=>∀ p∈l,p.length*8≤reachBytes:=by
 have h:=KC (P:=Tryz.prog) (t:=57) (e:=29) (by kernel_rfl) zA (by kernel_rfl);exact ⟨h.cells,h.qL,fun hx hw=>by
  obtain ⟨a,⟨h1,-⟩,h3⟩:=h.lD hx hw;exact ⟨a,h1,h3⟩⟩
theorem P6:kP Tryz.prog 59 rD fun s=>s.nU.length*8≤reachBytes∧∀ p∈s.pD,p.length*8≤reachBytes:=⟨by kernel_rfl,by decide,fun h hw=>by
 obtain ⟨a,b,c,⟨h1,-,h3⟩,hr⟩:=ahh (α:=List Int) (β:=Int) (γ:=List (List Int)) (u0:=29) (u1:=3) (u2:=57) (by kernel_rfl) zA xp.KB P5 (by kernel_rfl) h hw;exact ⟨⟨a,b,c⟩,⟨h1,h3⟩,hr⟩⟩
theorem aia{w:World}{D:aL}{E:aT}{x y:I}{a b:Value}(hx:∃ cs,bG x a cs∧af w D E x cs)(hy:∃ cs,bG y b cs∧af w D E y cs):aE w D E [x,y] [a,b]:=by
 obtain ⟨c1,h1,h2⟩:=hx;obtain ⟨c2,h3,h4⟩:=hy;simp only[aE];exact ⟨a,[b],c1,rfl,h1,h2,b,[],c2,rfl,h3,h4,rfl⟩
theorem aeU(os:Os)(started:os.Started)(H:Type)(enc0:TypeId×Value→H) :
  ReturnsInHanded {} Tryz.checked os 6 .any (Rows.herdTrueSpec.pre6 enc0 Tryz.prog Tryz.f6 Rows.herdTrueRow.domain false) (Rows.herdTrueSpec.post enc0 Tryz.prog Tryz.f6 false true false false):=by
 refine returnsInHanded_of_change_sized (C:=Tryz.checked) Tryz.own started (by kernel_rfl) Tryz.func6
  (ChangeSpec.witness6 (enc:=enc0) (C:=Tryz.checked) false ⟨#[],#[.agg #[.slice none 0 0,.int .i64 0,.slice none 0 0],.int .i64 0],[]⟩ 8 (by kernel_rfl) (by kernel_rfl) (by kernel_rfl) (by kernel_rfl)) ?_
 intro W base args ds gs before hval0 hW hcnd hz0 _;have hval:∀ (j:Nat) t v,Tryz.f6.params[j]?=some t→args[j]?=some v→Value.okWide Tryz.prog W .any base t v:=hval0;have hz:(DataW.weightsEach Tryz.prog (Tryz.f6.params.toList++Rows.herdTrueSpec.plain.varTypes Tryz.prog) (ds++gs)).all (· ≤ reachBytes)=true:=hz0;have hW':=hW;obtain ⟨p,q,hA0,hV,hbef,hfz,hnd⟩:=hW;have hA:DataW.TrodAll enc0 Tryz.prog W 0 (fun _=>true) true Tryz.f6.params.toList args.toList ds p:=hA0;rw[Tryz.params6] at hA hval hz;obtain ⟨v0,v1,d0,d1,p0,p1,rfl,rfl,rfl,h0,h1⟩:=trodAll_two hA;obtain ⟨rfl,rfl⟩:=trodVars_none hV;have hw0:∀ k∈d0.weights Tryz.prog 59,k≤reachBytes:=fun k hk=>of_decide_eq_true (zy2.1 hz k (DataW.weights_mem_each (j:=0) rfl rfl k hk));obtain ⟨a0,⟨n0,m0⟩,c0,k0⟩:=ahi P6 rfl (by kernel_rfl) (hval 0 59 v0 rfl rfl) h0 hw0;obtain ⟨a1,c1,k1⟩:=ahj xp rfl (by kernel_rfl) (hval 1 3 v1 rfl rfl) h1;have hr:reachBytes<2^47:=reachBytes_lt;exact afr (tb:=4) Tryz.afq (by rw[Tryz.params6]) rfl rfl (by rw[hbef];simp) rfl rfl (by kernel_rfl) (by kernel_rfl) hW' h0 h1 (by
  intro t ht;simp only[zw9,List.mem_nil_iff,or_false] at ht;rcases ht with rfl | rfl <;>exact ⟨by kernel_rfl,of_decide_eq_true (by kernel_rfl)⟩) (Pf a0 a1 (by omega) (fun p hp=>by have:=m0 p hp;omega)) (aia ⟨c0,k0⟩ ⟨c1,k1⟩)
theorem herdTrue_holds:Rows.HerdTrueSaid :=
 OpenClaim.holds_of_wide 6 Tryz.f6 rfl rfl rfl rfl rfl rfl rfl ⟨rfl,rfl,rfl,rfl,rfl⟩ rfl rfl rfl rfl rfl (by kernel_rfl) Tryz.func6 (by kernel_rfl)
  (of_decide_eq_true (by kernel_rfl)) (by unfold Func.isWrapper;first | (rw[if_pos (by decide +kernel)];kernel_rfl) | (rw[if_neg (by decide +kernel)];exact ⟨rfl,rfl⟩))
  (fun os started H enc0 _=>aeU os started H enc0)
#print axioms herdTrue_holds
end Go.Proofs.YtcldiigclhgafaaGreat
