/-
  A part of the proof that the law MarchEnds returns true for every input; three tables of Go's library start as the text lays them (the card ties them); conditions: none beyond the statement's own. (part 7 of 7)
-/
import Derived.OpenShut
import Derived.Stop.Joined
import Derived.SevenTiedAt
import Derived.Test.YthbdbocionnfgaaDoorNbf
set_option linter.unusedSimpArgs false
set_option linter.unusedVariables false
set_option maxHeartbeats 16000000
set_option maxRecDepth 100000
namespace Go.Proofs.YthbdbocionnfgaaDoor
open Go Go.Abs Go.ChangeShapes Go.WideShapes Go.ChangeAt Go.RowKit
open Go.Abs.Enc (enc)
theorem OR(os:Os)(args:Array Value):laidMetH Tryd.prog rv ((World.doorLaid Tryd.prog 4000 os).forCall (fun _ _=>0) ⟨#[],args,[]⟩).memory :=
 laidMetH_of_parts3 (fuel:=8) (laidMet_of_run' 8 (by kernel_rfl) (by kernel_rfl)) (by kernel_rfl) (by kernel_rfl)
theorem Zj(os:Os)(started:os.Started)(H:Type)(enc0:TypeId×Value→H) :
  ReturnsInHanded {} Tryd.checked os 4 .any (fun w args=>(Rows.marchEndsSpec.pre enc0 Tryd.prog Tryd.f4 [] false w args∧laidMetH Tryd.prog rv w)∧sizedMet enc0 Tryd.prog Tryd.f4 (OpenSpec.ofChange Rows.marchEndsSpec) false w args)
   (Rows.marchEndsSpec.post enc0 Tryd.prog Tryd.f4 false true false false):=by
 refine returnsInHanded_of_change_and (C:=Tryd.checked) (X:=fun w _=>laidMetH Tryd.prog rv w) (fun _ _ _ hh h=>h.of_heap hh) Tryd.own started (by kernel_rfl) Tryd.func4
  (ChangeSpec.witness_shaped (enc:=enc0) (C:=Tryd.checked) (os:=os) (X:=fun w _=>laidMetH Tryd.prog rv w) false (World.doorLaid Tryd.prog 4000 os) #[.slice none 0 0] 8 rfl (World.shaped_of_RefB (by kernel_rfl) (by kernel_rfl)) (by kernel_rfl) (by kernel_rfl) (by kernel_rfl) (OR os _)) ?_
 intro W fO args ds gs before hval0 hW hcnd _ hL _;have hval:∀ (j:Nat) t v,Tryd.f4.params[j]?=some t→args[j]?=some v→Value.okWide Tryd.prog W .any fO t v:=hval0;have hW':=hW;obtain ⟨p,q,hA0,hV,hbef,hfz,hnd⟩:=hW;have hA:DataW.TrodAll enc0 Tryd.prog W 0 (fun _=>true) true Tryd.f4.params.toList args.toList ds p:=hA0;rw[Tryd.params4] at hA hval;obtain ⟨v0,d0,rfl,rfl,bf⟩:=trodAll_one hA;obtain ⟨rfl,rfl⟩:=trodVars_none hV;obtain ⟨a0,c0,k0⟩:=aaz ZM rfl (by kernel_rfl) (hval 0 22 v0 rfl rfl) bf;exact YW (tb:=4) Tryd.YU (by rw[Tryd.params4]) rfl rfl (by rw[hbef];simp) rfl rfl (by kernel_rfl) (by kernel_rfl) hW' bf (by
  intro t ht;simp only[zw7,List.mem_nil_iff,or_false] at ht;rcases ht with rfl <;>exact ⟨by kernel_rfl,of_decide_eq_true (by kernel_rfl)⟩) (IQ a0) (aas hL) (abG ⟨c0,k0⟩)
theorem Zk:Rows.MarchEndsSaid :=
 OpenClaim.holds_of_wide 4 Tryd.f4 rfl rfl rfl rfl rfl rfl rfl ⟨rfl,rfl,rfl,rfl,rfl⟩ rfl rfl rfl rfl rfl (by kernel_rfl) Tryd.func4 (by kernel_rfl)
  (of_decide_eq_true (by kernel_rfl)) (by unfold Func.isWrapper;first | (rw[if_pos (by decide +kernel)];kernel_rfl) | (rw[if_neg (by decide +kernel)];exact ⟨rfl,rfl⟩))
  (fun os started H enc0 _=>Zj os started H enc0)
theorem marchEnds_holds:Rows.MarchEndsCardSaid :=
 Claim7.holds_tied_plain_at .later [] [.data, .data, .data] true (true, "c25b60dc1fda316d2a4410faf8b4af2bfa3e997e82387627e09ab00884dfea59") true
  Zk (fun _ h=>by cases h) (by kernel_rfl) (fun _ h=>by cases h) marchEnds_row_tie rfl ⟨rfl,rfl⟩ (by kernel_rfl) rfl
  (fun f fn hf hfn=>by
   obtain rfl : f = 4 := Option.some.inj ((show Tryd.prog.funcNamed "pinfold/pinfoldlaw09.MarchEnds" = some 4 by kernel_rfl).symm.trans hf) |>.symm
   obtain rfl:fn=Tryd.f4:=(Option.some.inj (Tryd.func4.symm.trans hfn)).symm;exact ⟨by kernel_rfl,fun j t ht=>by
    rw[Tryd.params4] at ht;have hm:t∈[22]:=List.mem_of_getElem? (by simpa using ht);simp only[zw7,List.mem_nil_iff,or_false] at hm;rcases hm with rfl
    ·exact (show Tryd.prog.wantsStandIn 22=false by kernel_rfl)⟩)
  (by kernel_rfl)
#print axioms marchEnds_holds
end Go.Proofs.YthbdbocionnfgaaDoor
