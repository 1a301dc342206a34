/-
  A part of the proof that the law MarchValid returns true for every input; three tables of Go's library start as the text lays them (the card ties them); conditions: none beyond the statement's own. (part 6 of 6)
-/
import Derived.OpenShut
import Derived.Stop.Joined
import Derived.SevenTiedAt
import Derived.Test.YthbdbocionnfgaaGreatDoorNfe
set_option linter.unusedSimpArgs false
set_option linter.unusedVariables false
set_option maxHeartbeats 16000000
set_option maxRecDepth 100000
namespace Go.Proofs.YthbdbocionnfgaaGreatDoor
open Go Go.Abs Go.ChangeShapes Go.WideShapes Go.ChangeAt Go.RowKit
open Go.Abs.Enc (enc)
theorem Mc(os:Os)(args:Array Value):laidMetH Tryz.prog pj ((World.doorLaid Tryz.prog 4000 os).forCall (fun _ _=>0) ⟨#[],args,[]⟩).memory :=
 laidMetH_of_parts3 (fuel:=8) (laidMet_of_run' 8 (by kernel_rfl) (by kernel_rfl)) (by kernel_rfl) (by kernel_rfl)
theorem V4(os:Os)(started:os.Started)(H:Type)(enc0:TypeId×Value→H) :
  ReturnsInHanded {} Tryz.checked os 7 .any (fun w args=>(Rows.marchValidSpec.pre enc0 Tryz.prog Tryz.f7 [] false w args∧laidMetH Tryz.prog pj w)∧sizedMet enc0 Tryz.prog Tryz.f7 (OpenSpec.ofChange Rows.marchValidSpec) false w args)
   (Rows.marchValidSpec.post enc0 Tryz.prog Tryz.f7 false true false false):=by
 refine returnsInHanded_of_change_and (C:=Tryz.checked) (X:=fun w _=>laidMetH Tryz.prog pj w) (fun _ _ _ bC h=>h.of_heap bC) Tryz.own started (by kernel_rfl) Tryz.func7
  (ChangeSpec.witness_shaped (enc:=enc0) (C:=Tryz.checked) (os:=os) (X:=fun w _=>laidMetH Tryz.prog pj w) false (World.doorLaid Tryz.prog 4000 os) #[.agg #[.int .i64 0,.slice none 0 0,.int .i64 0],.agg #[.int .i64 0,.int .i64 0,.int .i64 0,.int .i64 0,.int .i64 0],.agg #[.int .i64 0,.int .i64 0,.int .i64 0]] 8 rfl (World.shaped_of_RefB (by kernel_rfl) (by kernel_rfl)) (by kernel_rfl) (by kernel_rfl) (by kernel_rfl) (Mc os _)) ?_
 intro W fo args ds gs before hval0 hW hcnd _ hL _;have hval:∀ (j:Nat) t v,Tryz.f7.params[j]?=some t→args[j]?=some v→Value.okWide Tryz.prog W .any fo t v:=hval0;have hW':=hW;obtain ⟨p,q,hA0,hV,hbef,hfz,hnd⟩:=hW;have hA:DataW.TrodAll enc0 Tryz.prog W 0 (fun _=>true) true Tryz.f7.params.toList args.toList ds p:=hA0;rw[Tryz.params7] at hA hval;obtain ⟨v0,v1,v2,d0,d1,d2,fx,p1,p2,rfl,rfl,rfl,aW,J,U⟩:=trodAll_three hA;obtain ⟨rfl,rfl⟩:=trodVars_none hV;obtain ⟨a0,c0,k0⟩:=wT Wp rfl (by kernel_rfl) (hval 0 24 v0 rfl rfl) aW;obtain ⟨a1,c1,k1⟩:=wT Wq rfl (by kernel_rfl) (hval 1 39 v1 rfl rfl) J;obtain ⟨a2,c2,k2⟩:=wT Wm rfl (by kernel_rfl) (hval 2 46 v2 rfl rfl) U;exact VL (tb:=4) Tryz.VJ (by rw[Tryz.params7]) rfl rfl (by rw[hbef];simp) rfl rfl (by kernel_rfl) (by kernel_rfl) hW' aW J U (by
  intro t ht;simp only[zx3,List.mem_nil_iff,or_false] at ht;rcases ht with rfl | rfl | rfl <;>exact ⟨by kernel_rfl,of_decide_eq_true (by kernel_rfl)⟩) (Gj a0 a1 a2) (W9 hL) (Yh ⟨c0,k0⟩ ⟨c1,k1⟩ ⟨c2,k2⟩)
theorem V5:Rows.MarchValidSaid :=
 OpenClaim.holds_of_wide 7 Tryz.f7 rfl rfl rfl rfl rfl rfl rfl ⟨rfl,rfl,rfl,rfl,rfl⟩ rfl rfl rfl rfl rfl (by kernel_rfl) Tryz.func7 (by kernel_rfl)
  (of_decide_eq_true (by kernel_rfl)) (by unfold Func.isWrapper;first | (rw[if_pos (by decide +kernel)];kernel_rfl) | (rw[if_neg (by decide +kernel)];exact ⟨rfl,rfl⟩))
  (fun os started H enc0 _=>V4 os started H enc0)
theorem marchValid_holds:Rows.MarchValidCardSaid :=
 Claim7.holds_tied_plain_at .later [] [.data, .data, .data] true (true, "01259ae690a1be7e46d49c0025a19a0d74cc7fbf1fbfbe1bb7c7bf48c5e9e55b") true
  V5 (fun _ h=>by cases h) (by kernel_rfl) (fun _ h=>by cases h) marchValid_row_tie rfl ⟨rfl,rfl⟩ (by kernel_rfl) rfl
  (fun f fn hf hfn=>by
   obtain rfl : f = 7 := Option.some.inj ((show Tryz.prog.funcNamed "pinfold/pinfoldlaw09.MarchValid" = some 7 by kernel_rfl).symm.trans hf) |>.symm
   obtain rfl:fn=Tryz.f7:=(Option.some.inj (Tryz.func7.symm.trans hfn)).symm;exact ⟨by kernel_rfl,fun j t ht=>by
    rw[Tryz.params7] at ht;have hm:t∈[24,39,46]:=List.mem_of_getElem? (by simpa using ht);simp only[zx3,List.mem_nil_iff,or_false] at hm;rcases hm with rfl | rfl | rfl
    ·exact (show Tryz.prog.wantsStandIn 24=false by kernel_rfl)
    ·exact (show Tryz.prog.wantsStandIn 39=false by kernel_rfl)
    ·exact (show Tryz.prog.wantsStandIn 46=false by kernel_rfl)⟩)
  (by kernel_rfl)
#print axioms marchValid_holds
end Go.Proofs.YthbdbocionnfgaaGreatDoor
