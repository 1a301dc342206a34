/-
  A part of the proof that the law MarchLooks returns true for every input; three tables of Go's library start as the text lays them (the card ties them); conditions: none beyond the statement's own. (part 7 of 7)
-/
import Derived.OpenShut
import Derived.Stop.Joined
import Derived.SevenTiedAt
import Derived.Test.YthbdbocionnfgaaGreatDoorNdf
set_option linter.unusedSimpArgs false
set_option linter.unusedVariables false
set_option maxHeartbeats 16000000
set_option maxRecDepth 100000
namespace Go.Proofs.YthbdbocionnfgaaGreatDoor
open Go Go.Abs Go.ChangeShapes Go.WideShapes Go.ChangeAt Go.RowKit
open Go.Abs.Enc (enc)
theorem MX(os:Os)(args:Array Value):laidMetH Tryz.prog pq ((World.doorLaid Tryz.prog 4000 os).forCall (fun _ _=>0) ⟨#[],args,[]⟩).memory :=
 laidMetH_of_parts3 (fuel:=8) (laidMet_of_run' 8 (by kernel_rfl) (by kernel_rfl)) (by kernel_rfl) (by kernel_rfl)
theorem XR(os:Os)(started:os.Started)(H:Type)(enc0:TypeId×Value→H) :
  ReturnsInHanded {} Tryz.checked os 8 .any (fun w args=>(Rows.marchLooksSpec.pre enc0 Tryz.prog Tryz.f8 [] false w args∧laidMetH Tryz.prog pq w)∧sizedMet enc0 Tryz.prog Tryz.f8 (OpenSpec.ofChange Rows.marchLooksSpec) false w args)
   (Rows.marchLooksSpec.post enc0 Tryz.prog Tryz.f8 false true false false):=by
 refine returnsInHanded_of_change_and (C:=Tryz.checked) (X:=fun w _=>laidMetH Tryz.prog pq w) (fun _ _ _ bM h=>h.of_heap bM) Tryz.own started (by kernel_rfl) Tryz.func8
  (ChangeSpec.witness_shaped (enc:=enc0) (C:=Tryz.checked) (os:=os) (X:=fun w _=>laidMetH Tryz.prog pq w) false (World.doorLaid Tryz.prog 4000 os) #[.agg #[.int .i64 0,.slice none 0 0,.int .i64 0],.agg #[.int .i64 0,.int .i64 0,.int .i64 0]] 8 rfl (World.shaped_of_RefB (by kernel_rfl) (by kernel_rfl)) (by kernel_rfl) (by kernel_rfl) (by kernel_rfl) (MX os _)) ?_
 intro W fk args ds gs before hval0 hW hcnd _ hL _;have hval:∀ (j:Nat) t v,Tryz.f8.params[j]?=some t→args[j]?=some v→Value.okWide Tryz.prog W .any fk t v:=hval0;have hW':=hW;obtain ⟨p,q,hA0,hV,hbef,hfz,hnd⟩:=hW;have hA:DataW.TrodAll enc0 Tryz.prog W 0 (fun _=>true) true Tryz.f8.params.toList args.toList ds p:=hA0;rw[Tryz.params8] at hA hval;obtain ⟨v0,v1,d0,d1,gL,p1,rfl,rfl,rfl,aY,J⟩:=trodAll_two hA;obtain ⟨rfl,rfl⟩:=trodVars_none hV;obtain ⟨a0,c0,k0⟩:=Dg Ya rfl (by kernel_rfl) (hval 0 24 v0 rfl rfl) aY;obtain ⟨a1,c1,k1⟩:=Dg X7 rfl (by kernel_rfl) (hval 1 46 v1 rfl rfl) J;exact Xw (tb:=4) Tryz.Xu (by rw[Tryz.params8]) rfl rfl (by rw[hbef];simp) rfl rfl (by kernel_rfl) (by kernel_rfl) hW' aY J (by
  intro t ht;simp only[zv1,List.mem_nil_iff,or_false] at ht;rcases ht with rfl | rfl <;>exact ⟨by kernel_rfl,of_decide_eq_true (by kernel_rfl)⟩) (G6 a0 a1) (YP hL) (ZV ⟨c0,k0⟩ ⟨c1,k1⟩)
theorem XS:Rows.MarchLooksSaid :=
 OpenClaim.holds_of_wide 8 Tryz.f8 rfl rfl rfl rfl rfl rfl rfl ⟨rfl,rfl,rfl,rfl,rfl⟩ rfl rfl rfl rfl rfl (by kernel_rfl) Tryz.func8 (by kernel_rfl)
  (of_decide_eq_true (by kernel_rfl)) (by unfold Func.isWrapper;first | (rw[if_pos (by decide +kernel)];kernel_rfl) | (rw[if_neg (by decide +kernel)];exact ⟨rfl,rfl⟩))
  (fun os started H enc0 _=>XR os started H enc0)
theorem marchLooks_holds:Rows.MarchLooksCardSaid :=
 Claim7.holds_tied_plain_at .later [] [.data, .data, .data] true (true, "01259ae690a1be7e46d49c0025a19a0d74cc7fbf1fbfbe1bb7c7bf48c5e9e55b") true
  XS (fun _ h=>by cases h) (by kernel_rfl) (fun _ h=>by cases h) marchLooks_row_tie rfl ⟨rfl,rfl⟩ (by kernel_rfl) rfl
  (fun f fn hf hfn=>by
   obtain rfl : f = 8 := Option.some.inj ((show Tryz.prog.funcNamed "pinfold/pinfoldlaw09.MarchLooks" = some 8 by kernel_rfl).symm.trans hf) |>.symm
   obtain rfl:fn=Tryz.f8:=(Option.some.inj (Tryz.func8.symm.trans hfn)).symm;exact ⟨by kernel_rfl,fun j t ht=>by
    rw[Tryz.params8] at ht;have hm:t∈[24,46]:=List.mem_of_getElem? (by simpa using ht);simp only[zv1,List.mem_nil_iff,or_false] at hm;rcases hm with rfl | rfl
    ·exact (show Tryz.prog.wantsStandIn 24=false by kernel_rfl)
    ·exact (show Tryz.prog.wantsStandIn 46=false by kernel_rfl)⟩)
  (by kernel_rfl)
#print axioms marchLooks_holds
end Go.Proofs.YthbdbocionnfgaaGreatDoor
