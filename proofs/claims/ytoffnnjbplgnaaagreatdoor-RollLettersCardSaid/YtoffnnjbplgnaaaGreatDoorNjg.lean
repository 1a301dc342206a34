/-
  A part of the proof that the law RollLetters returns true for every input; five variables of Go's library start as the text lays them (the card ties them); conditions: none beyond the statement's own. (part 7 of 7)
-/
import Derived.OpenShut
import Derived.Lay
import Derived.ChangeMaps5
import Derived.Stop.Joined
import Derived.SevenTiedAt
import Derived.Test.YtoffnnjbplgnaaaGreatDoorNjf
set_option linter.unusedSimpArgs false
set_option linter.unusedVariables false
set_option maxHeartbeats 16000000
set_option maxRecDepth 100000
namespace Go.Proofs.YtoffnnjbplgnaaaGreatDoor
open Go Go.Abs Go.ChangeShapes Go.WideShapes Go.ChangeAt Go.RowKit
open Go.Abs.Enc (enc)
theorem RZ(os:Os)(args:Array Value):laidMetH Tryz.prog kT ((World.laidAll Tryz.prog os kT).forCall (fun _ _=>0) ⟨#[],args,[]⟩).memory:=by
 rw[MakeChecks.laidMetH_plain _ _ _ (by kernel_rfl)];exact laidMet_laidAll args (by kernel_rfl) (by kernel_rfl)
theorem agG(os:Os)(started:os.Started)(H:Type)(enc0:TypeId×Value→H) :
  ReturnsInHanded {} Tryz.checked os 13 .any (fun w args=>(Rows.rollLettersSpec.pre enc0 Tryz.prog Tryz.f13 [] false w args∧laidMetH Tryz.prog kT w)∧sizedMet enc0 Tryz.prog Tryz.f13 (OpenSpec.ofChange Rows.rollLettersSpec) false w args)
   (Rows.rollLettersSpec.post enc0 Tryz.prog Tryz.f13 false true false false):=by
 refine agE (C:=Tryz.checked) (X:=fun w _=>laidMetH Tryz.prog kT w) (fun _ _ _ hh h=>h.of_heap hh) Tryz.own started (by kernel_rfl) Tryz.func13
  (ChangeSpec.witness_shaped (enc:=enc0) (C:=Tryz.checked) (os:=os) (X:=fun w _=>laidMetH Tryz.prog kT w) false (World.laidAll Tryz.prog os kT) #[.slice none 0 0,.slice none 0 0] 8 rfl (World.shaped_of_RefB (by kernel_rfl) (by kernel_rfl)) (by kernel_rfl) (by kernel_rfl) (by kernel_rfl) (RZ os _)) ?_
 intro W er args ds gs before hval0 hW hz0 hL hsh;have hval:∀ (j:Nat) t v,Tryz.f13.params[j]?=some t→args[j]?=some v→Value.okWide Tryz.prog W .any er t v:=hval0;have hz:(DataW.weightsEach Tryz.prog (Tryz.f13.params.toList++Rows.rollLettersSpec.plain.varTypes Tryz.prog) (ds++gs)).all (· ≤ reachBytes)=true:=hz0;have hW':=hW;obtain ⟨p,q,hA0,hV,hbef,hfz,hnd⟩:=hW;have hA:DataW.TrodAll enc0 Tryz.prog W 0 (fun _=>true) true Tryz.f13.params.toList args.toList ds p:=hA0;rw[Tryz.params13] at hA hval hz;obtain ⟨v0,v1,d0,d1,p0,p1,rfl,rfl,rfl,h0,h1⟩:=trodAll_two hA;obtain ⟨rfl,rfl⟩:=trodVars_none hV;have hw0:∀ k∈d0.weights Tryz.prog 89,k≤reachBytes:=fun k hk=>of_decide_eq_true (zx1.1 hz k (DataW.weights_mem_each (j:=0) rfl rfl k hk));obtain ⟨a0,b0,c0,k0⟩:=GR Lw rfl (by kernel_rfl) (hval 0 89 v0 rfl rfl) h0 hw0;have hw1:∀ k∈d1.weights Tryz.prog 32,k≤reachBytes:=fun k hk=>of_decide_eq_true (zx1.1 hz k (DataW.weights_mem_each (j:=1) rfl rfl k hk));obtain ⟨a1,b1,c1,k1⟩:=GR BP rfl (by kernel_rfl) (hval 1 32 v1 rfl rfl) h1 hw1;have f:=Ka a0 (by have:=b0.2;have:=reachBytes_lt;omega) (fun y hy=>by have:=b0.1 y hy;have:=reachBytes_lt;omega) a1 (by have:=b1;have:=reachBytes_lt;omega);exact adP (tb:=4) Tryz.adM (by rw[Tryz.params13]) rfl rfl (by rw[hbef];simp) rfl rfl (by kernel_rfl) (by kernel_rfl) hW' h0 h1 (by
  intro t ht;simp only[zx7,List.mem_nil_iff,or_false] at ht;rcases ht with rfl | rfl <;>exact ⟨by kernel_rfl,of_decide_eq_true (by kernel_rfl)⟩) f (afn hL hsh) (agQ ⟨c0,k0⟩ ⟨c1,k1⟩)
theorem agH:Rows.RollLettersSaid :=
 OpenClaim.holds_of_wide 13 Tryz.f13 rfl rfl rfl rfl rfl rfl rfl ⟨rfl,rfl,rfl,rfl,rfl⟩ rfl rfl rfl rfl rfl (by kernel_rfl) Tryz.func13 (by kernel_rfl)
  (of_decide_eq_true (by kernel_rfl)) (by unfold Func.isWrapper;first | (rw[if_pos (by decide +kernel)];kernel_rfl) | (rw[if_neg (by decide +kernel)];exact ⟨rfl,rfl⟩))
  (fun os started H enc0 _=>agG os started H enc0)
theorem rollLetters_holds:Rows.RollLettersCardSaid :=
 Claim7.holds_tied_plain_at .later [] [.data, .data, .data, .sentinel, .sentinel] true (true, "63c5070df843979b06ff706d399a436e8559ec10069c80a1b125a399e3e531b3") true
  agH (fun _ h=>by cases h) (by kernel_rfl) (fun _ h=>by cases h) rollLetters_row_tie rfl ⟨rfl,rfl⟩ (by kernel_rfl) rfl
  (fun f fn hf hfn=>by
   obtain rfl : f = 13 := Option.some.inj ((show Tryz.prog.funcNamed "pinfold/pinfoldlaw08.RollLetters" = some 13 by kernel_rfl).symm.trans hf) |>.symm
   obtain rfl:fn=Tryz.f13:=(Option.some.inj (Tryz.func13.symm.trans hfn)).symm;exact ⟨by kernel_rfl,fun j t ht=>by
    rw[Tryz.params13] at ht;have hm:t∈[89,32]:=List.mem_of_getElem? (by simpa using ht);simp only[zx7,List.mem_nil_iff,or_false] at hm;rcases hm with rfl | rfl
    ·exact (show Tryz.prog.wantsStandIn 89=false by kernel_rfl)
    ·exact (show Tryz.prog.wantsStandIn 32=false by kernel_rfl)⟩)
  (by kernel_rfl)
#print axioms rollLetters_holds
end Go.Proofs.YtoffnnjbplgnaaaGreatDoor
