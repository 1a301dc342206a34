/-
  A part of the proof that the law MarchOnce returns true for every input; three tables of Go's library start as the text lays them (the card ties them); conditions: none beyond the statement's own. (part 7 of 7)
-/
import Derived.OpenShut
import Derived.Stop.Joined
import Derived.SevenTiedAt
import Derived.Test.YthbdbocionnfgaaDoorNaf
set_option linter.unusedSimpArgs false
set_option linter.unusedVariables false
set_option maxHeartbeats 16000000
set_option maxRecDepth 100000
namespace Go.Proofs.YthbdbocionnfgaaDoor
open Go Go.Abs Go.ChangeShapes Go.WideShapes Go.ChangeAt Go.RowKit
open Go.Abs.Enc (enc)
theorem NC(os:Os)(args:Array Value):laidMetH Tryd.prog qG ((World.doorLaid Tryd.prog 4000 os).forCall (fun _ _=>0) ⟨#[],args,[]⟩).memory :=
 laidMetH_of_parts3 (fuel:=8) (laidMet_of_run' 8 (by kernel_rfl) (by kernel_rfl)) (by kernel_rfl) (by kernel_rfl)
theorem Xp(os:Os)(started:os.Started)(H:Type)(enc0:TypeId×Value→H) :
  ReturnsInHanded {} Tryd.checked os 3 .any (fun w args=>(Rows.marchOnceSpec.pre enc0 Tryd.prog Tryd.f3 [] false w args∧laidMetH Tryd.prog qG w)∧sizedMet enc0 Tryd.prog Tryd.f3 (OpenSpec.ofChange Rows.marchOnceSpec) false w args)
   (Rows.marchOnceSpec.post enc0 Tryd.prog Tryd.f3 false true false false):=by
 refine returnsInHanded_of_change_and (C:=Tryd.checked) (X:=fun w _=>laidMetH Tryd.prog qG w) (fun _ _ _ hh h=>h.of_heap hh) Tryd.own started (by kernel_rfl) Tryd.func3
  (ChangeSpec.witness_shaped (enc:=enc0) (C:=Tryd.checked) (os:=os) (X:=fun w _=>laidMetH Tryd.prog qG w) false (World.doorLaid Tryd.prog 4000 os) #[.slice none 0 0] 8 rfl (World.shaped_of_RefB (by kernel_rfl) (by kernel_rfl)) (by kernel_rfl) (by kernel_rfl) (by kernel_rfl) (NC os _)) ?_
 intro W fx args ds gs before hval0 hW hcnd _ hL _;have hval:∀ (j:Nat) t v,Tryd.f3.params[j]?=some t→args[j]?=some v→Value.okWide Tryd.prog W .any fx t v:=hval0;have hW':=hW;obtain ⟨p,q,hA0,hV,hbef,hfz,hnd⟩:=hW;have hA:DataW.TrodAll enc0 Tryd.prog W 0 (fun _=>true) true Tryd.f3.params.toList args.toList ds p:=hA0;rw[Tryd.params3] at hA hval;obtain ⟨v0,d0,rfl,rfl,aZ⟩:=trodAll_one hA;obtain ⟨rfl,rfl⟩:=trodVars_none hV;obtain ⟨a0,c0,k0⟩:=YB XN rfl (by kernel_rfl) (hval 0 22 v0 rfl rfl) aZ;exact W6 (tb:=4) Tryd.W4 (by rw[Tryd.params3]) rfl rfl (by rw[hbef];simp) rfl rfl (by kernel_rfl) (by kernel_rfl) hW' aZ (by
  intro t ht;simp only[zw9,List.mem_nil_iff,or_false] at ht;rcases ht with rfl <;>exact ⟨by kernel_rfl,of_decide_eq_true (by kernel_rfl)⟩) (HB a0) (Yt hL) (ZI ⟨c0,k0⟩)
theorem Xq:Rows.MarchOnceSaid :=
 OpenClaim.holds_of_wide 3 Tryd.f3 rfl rfl rfl rfl rfl rfl rfl ⟨rfl,rfl,rfl,rfl,rfl⟩ rfl rfl rfl rfl rfl (by kernel_rfl) Tryd.func3 (by kernel_rfl)
  (of_decide_eq_true (by kernel_rfl)) (by unfold Func.isWrapper;first | (rw[if_pos (by decide +kernel)];kernel_rfl) | (rw[if_neg (by decide +kernel)];exact ⟨rfl,rfl⟩))
  (fun os started H enc0 _=>Xp os started H enc0)
theorem marchOnce_holds:Rows.MarchOnceCardSaid :=
 Claim7.holds_tied_plain_at .later [] [.data, .data, .data] true (true, "c25b60dc1fda316d2a4410faf8b4af2bfa3e997e82387627e09ab00884dfea59") true
  Xq (fun _ h=>by cases h) (by kernel_rfl) (fun _ h=>by cases h) marchOnce_row_tie rfl ⟨rfl,rfl⟩ (by kernel_rfl) rfl
  (fun f fn hf hfn=>by
   obtain rfl : f = 3 := Option.some.inj ((show Tryd.prog.funcNamed "pinfold/pinfoldlaw09.MarchOnce" = some 3 by kernel_rfl).symm.trans hf) |>.symm
   obtain rfl:fn=Tryd.f3:=(Option.some.inj (Tryd.func3.symm.trans hfn)).symm;exact ⟨by kernel_rfl,fun j t ht=>by
    rw[Tryd.params3] at ht;have hm:t∈[22]:=List.mem_of_getElem? (by simpa using ht);simp only[zw9,List.mem_nil_iff,or_false] at hm;rcases hm with rfl
    ·exact (show Tryd.prog.wantsStandIn 22=false by kernel_rfl)⟩)
  (by kernel_rfl)
#print axioms marchOnce_holds
end Go.Proofs.YthbdbocionnfgaaDoor
