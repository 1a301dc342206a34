/-
  A part of the proof that the law RollScans returns true for every input; five variables of Go's library start as the text lays them (the card ties them); conditions: none beyond the statement's own. (part 6 of 6)
-/
import Derived.OpenShut
import Derived.Lay
import Derived.ChangeMaps5
import Derived.Stop.Joined
import Derived.SevenTiedAt
import Derived.Test.YtoffnnjbplgnaaaGreatDoorNae
set_option linter.unusedSimpArgs false
set_option linter.unusedVariables false
set_option maxHeartbeats 16000000
set_option maxRecDepth 100000
namespace Go.Proofs.YtoffnnjbplgnaaaGreatDoor
open Go Go.Abs Go.ChangeShapes Go.WideShapes Go.ChangeAt Go.RowKit
open Go.Abs.Enc (enc)
theorem Ks(os:Os)(args:Array Value):laidMetH Tryz.prog iZ ((World.laidAll Tryz.prog os iZ).forCall (fun _ _=>0) ⟨#[],args,[]⟩).memory:=by
 rw[MakeChecks.laidMetH_plain _ _ _ (by kernel_rfl)];exact laidMet_laidAll args (by kernel_rfl) (by kernel_rfl)
theorem Wy(os:Os)(started:os.Started)(H:Type)(enc0:TypeId×Value→H) :
  ReturnsInHanded {} Tryz.checked os 3 .any (fun w args=>(Rows.rollScansSpec.pre enc0 Tryz.prog Tryz.f3 [] false w args∧laidMetH Tryz.prog iZ w)∧sizedMet enc0 Tryz.prog Tryz.f3 (OpenSpec.ofChange Rows.rollScansSpec) false w args)
   (Rows.rollScansSpec.post enc0 Tryz.prog Tryz.f3 false true false false):=by
 refine Ww (C:=Tryz.checked) (X:=fun w _=>laidMetH Tryz.prog iZ w) (fun _ _ _ hh h=>h.of_heap hh) Tryz.own started (by kernel_rfl) Tryz.func3
  (ChangeSpec.witness_shaped (enc:=enc0) (C:=Tryz.checked) (os:=os) (X:=fun w _=>laidMetH Tryz.prog iZ w) false (World.laidAll Tryz.prog os iZ) #[.string ⟨#[]⟩] 8 rfl (World.shaped_of_RefB (by kernel_rfl) (by kernel_rfl)) (by kernel_rfl) (by kernel_rfl) (by kernel_rfl) (Ks os _)) ?_
 intro W dT args ds gs before hval0 hW hz0 hL hsh;have hval:∀ (j:Nat) t v,Tryz.f3.params[j]?=some t→args[j]?=some v→Value.okWide Tryz.prog W .any dT t v:=hval0;have hz:(DataW.weightsEach Tryz.prog (Tryz.f3.params.toList++Rows.rollScansSpec.plain.varTypes Tryz.prog) (ds++gs)).all (· ≤ reachBytes)=true:=hz0;have hW':=hW;obtain ⟨p,q,hA0,hV,hbef,hfz,hnd⟩:=hW;have hA:DataW.TrodAll enc0 Tryz.prog W 0 (fun _=>true) true Tryz.f3.params.toList args.toList ds p:=hA0;rw[Tryz.params3] at hA hval hz;obtain ⟨v0,d0,rfl,rfl,h0⟩:=trodAll_one hA;obtain ⟨rfl,rfl⟩:=trodVars_none hV;have hw0:∀ k∈d0.weights Tryz.prog 9,k≤reachBytes:=fun k hk=>of_decide_eq_true (X6.1 hz k (DataW.weights_mem_each (j:=0) rfl rfl k hk));obtain ⟨a0,b0,c0,k0⟩:=VD Fx rfl (by kernel_rfl) (hval 0 9 v0 rfl rfl) h0 hw0;have f:=Ew a0.l (by omega);rw[aj.sa] at f;exact TR (tb:=4) Tryz.TQ (by rw[Tryz.params3]) rfl rfl (by rw[hbef];simp) rfl rfl (by kernel_rfl) (by kernel_rfl) hW' h0 (by
  intro t ht;simp only[zz3,List.mem_nil_iff,or_false] at ht;rcases ht with rfl <;>exact ⟨by kernel_rfl,of_decide_eq_true (by kernel_rfl)⟩) f (Vq hL hsh) (WG ⟨c0,k0⟩)
theorem Wz:Rows.RollScansSaid :=
 OpenClaim.holds_of_wide 3 Tryz.f3 rfl rfl rfl rfl rfl rfl rfl ⟨rfl,rfl,rfl,rfl,rfl⟩ rfl rfl rfl rfl rfl (by kernel_rfl) Tryz.func3 (by kernel_rfl)
  (of_decide_eq_true (by kernel_rfl)) (by unfold Func.isWrapper;first | (rw[if_pos (by decide +kernel)];kernel_rfl) | (rw[if_neg (by decide +kernel)];exact ⟨rfl,rfl⟩))
  (fun os started H enc0 _=>Wy os started H enc0)
theorem rollScans_holds:Rows.RollScansCardSaid :=
 Claim7.holds_tied_plain_at .later [] [.data, .data, .data, .sentinel, .sentinel] true (true, "63c5070df843979b06ff706d399a436e8559ec10069c80a1b125a399e3e531b3") true
  Wz (fun _ h=>by cases h) (by kernel_rfl) (fun _ h=>by cases h) rollScans_row_tie rfl ⟨rfl,rfl⟩ (by kernel_rfl) rfl
  (fun f fn hf hfn=>by
   obtain rfl : f = 3 := Option.some.inj ((show Tryz.prog.funcNamed "pinfold/pinfoldlaw08.RollScans" = some 3 by kernel_rfl).symm.trans hf) |>.symm
   obtain rfl:fn=Tryz.f3:=(Option.some.inj (Tryz.func3.symm.trans hfn)).symm;exact ⟨by kernel_rfl,fun j t ht=>by
    rw[Tryz.params3] at ht;have hm:t∈[9]:=List.mem_of_getElem? (by simpa using ht);simp only[zz3,List.mem_nil_iff,or_false] at hm;rcases hm with rfl
    ·exact (show Tryz.prog.wantsStandIn 9=false by kernel_rfl)⟩)
  (by kernel_rfl)
#print axioms rollScans_holds
end Go.Proofs.YtoffnnjbplgnaaaGreatDoor
