/-
  A part of the proof that the law MarchPounds returns true for every input; three tables of Go's library start as the text lays them (the card ties them); conditions: none beyond the statement's own. (part 6 of 6)
-/
import Derived.OpenShut
import Derived.Stop.Joined
import Derived.SevenTiedAt
import Derived.Test.YthbdbocionnfgaaGreatDoorNee
set_option linter.unusedSimpArgs false
set_option linter.unusedVariables false
set_option maxHeartbeats 16000000
set_option maxRecDepth 100000
namespace Go.Proofs.YthbdbocionnfgaaGreatDoor
open Go Go.Abs Go.ChangeShapes Go.WideShapes Go.ChangeAt Go.RowKit
open Go.Abs.Enc (enc)
theorem Mp(os:Os)(args:Array Value):laidMetH Tryz.prog pk ((World.doorLaid Tryz.prog 4000 os).forCall (fun _ _=>0) ⟨#[],args,[]⟩).memory :=
 laidMetH_of_parts3 (fuel:=8) (laidMet_of_run' 8 (by kernel_rfl) (by kernel_rfl)) (by kernel_rfl) (by kernel_rfl)
theorem W3(os:Os)(started:os.Started)(H:Type)(enc0:TypeId×Value→H) :
  ReturnsInHanded {} Tryz.checked os 6 .any (fun w args=>(Rows.marchPoundsSpec.pre enc0 Tryz.prog Tryz.f6 [] false w args∧laidMetH Tryz.prog pk w)∧sizedMet enc0 Tryz.prog Tryz.f6 (OpenSpec.ofChange Rows.marchPoundsSpec) false w args)
   (Rows.marchPoundsSpec.post enc0 Tryz.prog Tryz.f6 false true false false):=by
 refine returnsInHanded_of_change_and (C:=Tryz.checked) (X:=fun w _=>laidMetH Tryz.prog pk w) (fun _ _ _ bH h=>h.of_heap bH) Tryz.own started (by kernel_rfl) Tryz.func6
  (ChangeSpec.witness_shaped (enc:=enc0) (C:=Tryz.checked) (os:=os) (X:=fun w _=>laidMetH Tryz.prog pk w) false (World.doorLaid Tryz.prog 4000 os) #[.slice none 0 0,.int .i64 0] 8 rfl (World.shaped_of_RefB (by kernel_rfl) (by kernel_rfl)) (by kernel_rfl) (by kernel_rfl) (by kernel_rfl) (Mp os _)) ?_
 intro W fq args ds gs before hval0 hW hcnd _ hL _;have hval:∀ (j:Nat) t v,Tryz.f6.params[j]?=some t→args[j]?=some v→Value.okWide Tryz.prog W .any fq t v:=hval0;have hW':=hW;obtain ⟨p,q,hA0,hV,hbef,hfz,hnd⟩:=hW;have hA:DataW.TrodAll enc0 Tryz.prog W 0 (fun _=>true) true Tryz.f6.params.toList args.toList ds p:=hA0;rw[Tryz.params6] at hA hval;obtain ⟨v0,v1,d0,d1,gL,p1,rfl,rfl,rfl,aW,J⟩:=trodAll_two hA;obtain ⟨rfl,rfl⟩:=trodVars_none hV;obtain ⟨a0,c0,k0⟩:=C1 Xm rfl (by kernel_rfl) (hval 0 53 v0 rfl rfl) aW;obtain ⟨a1,c1,k1⟩:=C1 nX rfl (by kernel_rfl) (hval 1 3 v1 rfl rfl) J;exact WG (tb:=4) Tryz.WD (by rw[Tryz.params6]) rfl rfl (by rw[hbef];simp) rfl rfl (by kernel_rfl) (by kernel_rfl) hW' aW J (by
  intro t ht;simp only[zw5,List.mem_nil_iff,or_false] at ht;rcases ht with rfl | rfl <;>exact ⟨by kernel_rfl,of_decide_eq_true (by kernel_rfl)⟩) (Gn a0 a1) (X1 hL) (Zb ⟨c0,k0⟩ ⟨c1,k1⟩)
theorem W4:Rows.MarchPoundsSaid :=
 OpenClaim.holds_of_wide 6 Tryz.f6 rfl rfl rfl rfl rfl rfl rfl ⟨rfl,rfl,rfl,rfl,rfl⟩ rfl rfl rfl rfl rfl (by kernel_rfl) Tryz.func6 (by kernel_rfl)
  (of_decide_eq_true (by kernel_rfl)) (by unfold Func.isWrapper;first | (rw[if_pos (by decide +kernel)];kernel_rfl) | (rw[if_neg (by decide +kernel)];exact ⟨rfl,rfl⟩))
  (fun os started H enc0 _=>W3 os started H enc0)
theorem marchPounds_holds:Rows.MarchPoundsCardSaid :=
 Claim7.holds_tied_plain_at .later [] [.data, .data, .data] true (true, "01259ae690a1be7e46d49c0025a19a0d74cc7fbf1fbfbe1bb7c7bf48c5e9e55b") true
  W4 (fun _ h=>by cases h) (by kernel_rfl) (fun _ h=>by cases h) marchPounds_row_tie rfl ⟨rfl,rfl⟩ (by kernel_rfl) rfl
  (fun f fn hf hfn=>by
   obtain rfl : f = 6 := Option.some.inj ((show Tryz.prog.funcNamed "pinfold/pinfoldlaw09.MarchPounds" = some 6 by kernel_rfl).symm.trans hf) |>.symm
   obtain rfl:fn=Tryz.f6:=(Option.some.inj (Tryz.func6.symm.trans hfn)).symm;exact ⟨by kernel_rfl,fun j t ht=>by
    rw[Tryz.params6] at ht;have hm:t∈[53,3]:=List.mem_of_getElem? (by simpa using ht);simp only[zw5,List.mem_nil_iff,or_false] at hm;rcases hm with rfl | rfl
    ·exact (show Tryz.prog.wantsStandIn 53=false by kernel_rfl)
    ·exact (show Tryz.prog.wantsStandIn 3=false by kernel_rfl)⟩)
  (by kernel_rfl)
#print axioms marchPounds_holds
end Go.Proofs.YthbdbocionnfgaaGreatDoor
