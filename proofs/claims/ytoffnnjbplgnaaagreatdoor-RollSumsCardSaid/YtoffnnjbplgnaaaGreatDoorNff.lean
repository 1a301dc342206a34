/-
  A part of the proof that the law RollSums returns true for every input; five variables of Go's library start as the text lays them (the card ties them); conditions: none beyond the statement's own. (part 6 of 6)
-/
import Derived.OpenShut
import Derived.Lay
import Derived.ChangeMaps5
import Derived.Stop.Joined
import Derived.SevenTiedAt
import Derived.Test.YtoffnnjbplgnaaaGreatDoorNfe
set_option linter.unusedSimpArgs false
set_option linter.unusedVariables false
set_option maxHeartbeats 16000000
set_option maxRecDepth 100000
namespace Go.Proofs.YtoffnnjbplgnaaaGreatDoor
open Go Go.Abs Go.ChangeShapes Go.WideShapes Go.ChangeAt Go.RowKit
open Go.Abs.Enc (enc)
theorem Ma(os:Os)(args:Array Value):laidMetH Tryz.prog jv ((World.laidAll Tryz.prog os jv).forCall (fun _ _=>0) ⟨#[],args,[]⟩).memory:=by
 rw[MakeChecks.laidMetH_plain _ _ _ (by kernel_rfl)];exact laidMet_laidAll args (by kernel_rfl) (by kernel_rfl)
theorem YU(os:Os)(started:os.Started)(H:Type)(enc0:TypeId×Value→H) :
  ReturnsInHanded {} Tryz.checked os 10 .any (fun w args=>(Rows.rollSumsSpec.pre enc0 Tryz.prog Tryz.f10 [] false w args∧laidMetH Tryz.prog jv w)∧sizedMet enc0 Tryz.prog Tryz.f10 (OpenSpec.ofChange Rows.rollSumsSpec) false w args)
   (Rows.rollSumsSpec.post enc0 Tryz.prog Tryz.f10 false true false false):=by
 refine YS (C:=Tryz.checked) (X:=fun w _=>laidMetH Tryz.prog jv w) (fun _ _ _ hh h=>h.of_heap hh) Tryz.own started (by kernel_rfl) Tryz.func10
  (ChangeSpec.witness_shaped (enc:=enc0) (C:=Tryz.checked) (os:=os) (X:=fun w _=>laidMetH Tryz.prog jv w) false (World.laidAll Tryz.prog os jv) #[.slice none 0 0,.int .i64 0,.int .i64 0] 8 rfl (World.shaped_of_RefB (by kernel_rfl) (by kernel_rfl)) (by kernel_rfl) (by kernel_rfl) (by kernel_rfl) (Ma os _)) ?_
 intro W dN args ds gs before hval0 hW hz0 hL hsh;have hval:∀ (j:Nat) t v,Tryz.f10.params[j]?=some t→args[j]?=some v→Value.okWide Tryz.prog W .any dN t v:=hval0;have hz:(DataW.weightsEach Tryz.prog (Tryz.f10.params.toList++Rows.rollSumsSpec.plain.varTypes Tryz.prog) (ds++gs)).all (· ≤ reachBytes)=true:=hz0;have hW':=hW;obtain ⟨p,q,hA0,hV,hbef,hfz,hnd⟩:=hW;have hA:DataW.TrodAll enc0 Tryz.prog W 0 (fun _=>true) true Tryz.f10.params.toList args.toList ds p:=hA0;rw[Tryz.params10] at hA hval hz;obtain ⟨v0,v1,v2,d0,d1,d2,p0,p1,p2,rfl,rfl,rfl,h0,h1,h2⟩:=trodAll_three hA;obtain ⟨rfl,rfl⟩:=trodVars_none hV;have hw0:∀ k∈d0.weights Tryz.prog 39,k≤reachBytes:=fun k hk=>of_decide_eq_true (zy5.1 hz k (DataW.weights_mem_each (j:=0) rfl rfl k hk));obtain ⟨a0,b0,c0,k0⟩:=wz G5 rfl (by kernel_rfl) (hval 0 39 v0 rfl rfl) h0 hw0;have hw1:∀ k∈d1.weights Tryz.prog 3,k≤reachBytes:=fun k hk=>of_decide_eq_true (zy5.1 hz k (DataW.weights_mem_each (j:=1) rfl rfl k hk));obtain ⟨a1,b1,c1,k1⟩:=wz yB rfl (by kernel_rfl) (hval 1 3 v1 rfl rfl) h1 hw1;have hw2:∀ k∈d2.weights Tryz.prog 3,k≤reachBytes:=fun k hk=>of_decide_eq_true (zy5.1 hz k (DataW.weights_mem_each (j:=2) rfl rfl k hk));obtain ⟨a2,b2,c2,k2⟩:=wz yB rfl (by kernel_rfl) (hval 2 3 v2 rfl rfl) h2 hw2;have f:=FK a0 (by have:=b0;have:=reachBytes_lt;omega) a1 a2;exact Wd (tb:=4) Tryz.Wc (by rw[Tryz.params10]) rfl rfl (by rw[hbef];simp) rfl rfl (by kernel_rfl) (by kernel_rfl) hW' h0 h1 h2 (by
  intro t ht;simp only[zy8,List.mem_nil_iff,or_false] at ht;rcases ht with rfl | rfl | rfl <;>exact ⟨by kernel_rfl,of_decide_eq_true (by kernel_rfl)⟩) f (XL hL hsh) (Y1 ⟨c0,k0⟩ ⟨c1,k1⟩ ⟨c2,k2⟩)
theorem YV:Rows.RollSumsSaid :=
 OpenClaim.holds_of_wide 10 Tryz.f10 rfl rfl rfl rfl rfl rfl rfl ⟨rfl,rfl,rfl,rfl,rfl⟩ rfl rfl rfl rfl rfl (by kernel_rfl) Tryz.func10 (by kernel_rfl)
  (of_decide_eq_true (by kernel_rfl)) (by unfold Func.isWrapper;first | (rw[if_pos (by decide +kernel)];kernel_rfl) | (rw[if_neg (by decide +kernel)];exact ⟨rfl,rfl⟩))
  (fun os started H enc0 _=>YU os started H enc0)
theorem rollSums_holds:Rows.RollSumsCardSaid :=
 Claim7.holds_tied_plain_at .later [] [.data, .data, .data, .sentinel, .sentinel] true (true, "63c5070df843979b06ff706d399a436e8559ec10069c80a1b125a399e3e531b3") true
  YV (fun _ h=>by cases h) (by kernel_rfl) (fun _ h=>by cases h) rollSums_row_tie rfl ⟨rfl,rfl⟩ (by kernel_rfl) rfl
  (fun f fn hf hfn=>by
   obtain rfl : f = 10 := Option.some.inj ((show Tryz.prog.funcNamed "pinfold/pinfoldlaw08.RollSums" = some 10 by kernel_rfl).symm.trans hf) |>.symm
   obtain rfl:fn=Tryz.f10:=(Option.some.inj (Tryz.func10.symm.trans hfn)).symm;exact ⟨by kernel_rfl,fun j t ht=>by
    rw[Tryz.params10] at ht;have hm:t∈[39,3,3]:=List.mem_of_getElem? (by simpa using ht);simp only[zy8,List.mem_nil_iff,or_false] at hm;rcases hm with rfl | rfl | rfl
    ·exact (show Tryz.prog.wantsStandIn 39=false by kernel_rfl)
    ·exact (show Tryz.prog.wantsStandIn 3=false by kernel_rfl)
    ·exact (show Tryz.prog.wantsStandIn 3=false by kernel_rfl)⟩)
  (by kernel_rfl)
#print axioms rollSums_holds
end Go.Proofs.YtoffnnjbplgnaaaGreatDoor
