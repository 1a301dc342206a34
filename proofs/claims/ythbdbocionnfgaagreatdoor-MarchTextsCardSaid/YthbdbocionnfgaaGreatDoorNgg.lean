/-
  A part of the proof that the law MarchTexts returns true for every input; seven variables of Go's library start as the text lays them (the card ties them); conditions: none beyond the statement's own. (part 7 of 7)
-/
import Derived.OpenShut
import Derived.Lay
import Derived.ChangeMaps5
import Derived.Stop.Joined
import Derived.SevenTiedAt
import Derived.Test.YthbdbocionnfgaaGreatDoorNgf
set_option linter.unusedSimpArgs false
set_option linter.unusedVariables false
set_option maxHeartbeats 16000000
set_option maxRecDepth 100000
namespace Go.Proofs.YthbdbocionnfgaaGreatDoor
open Go Go.Abs Go.ChangeShapes Go.WideShapes Go.ChangeAt Go.RowKit
open Go.Abs.Enc (enc)
theorem Pk(os:Os)(args:Array Value):laidMetH Tryz.prog kr ((World.laidAll Tryz.prog os kr).forCall (fun _ _=>0) ⟨#[],args,[]⟩).memory:=by
 rw[MakeChecks.laidMetH_plain _ _ _ (by kernel_rfl)];exact laidMet_laidAll args (by kernel_rfl) (by kernel_rfl)
theorem adF{w:World}{D:aS}{E:bf}{x y:I}{a b:Value}(hx:∃ cs,bC x a cs∧al w D E x cs)(hy:∃ cs,bC y b cs∧al w D E y cs):aH w D E [x,y] [a,b]:=by
 obtain ⟨c1,J,U⟩:=hx;obtain ⟨c2,af,ar⟩:=hy;simp only[aH];exact ⟨a,[b],c1,rfl,J,U,b,[],c2,rfl,af,ar,rfl⟩
theorem abg(os:Os)(started:os.Started)(H:Type)(enc0:TypeId×Value→H) :
  ReturnsInHanded {} Tryz.checked os 9 .any (fun w args=>(Rows.marchTextsSpec.pre enc0 Tryz.prog Tryz.f9 [] false w args∧laidMetH Tryz.prog kr w)∧sizedMet enc0 Tryz.prog Tryz.f9 (OpenSpec.ofChange Rows.marchTextsSpec) false w args)
   (Rows.marchTextsSpec.post enc0 Tryz.prog Tryz.f9 false true false false):=by
 refine adt (C:=Tryz.checked) (X:=fun w _=>laidMetH Tryz.prog kr w) (fun _ _ _ bz h=>h.of_heap bz) Tryz.own started (by kernel_rfl) Tryz.func9
  (ChangeSpec.witness_shaped (enc:=enc0) (C:=Tryz.checked) (os:=os) (X:=fun w _=>laidMetH Tryz.prog kr w) false (World.laidAll Tryz.prog os kr) #[.agg #[.int .i64 0,.slice none 0 0,.int .i64 0],.string ⟨#[]⟩] 8 rfl (World.shaped_of_RefB (by kernel_rfl) (by kernel_rfl)) (by kernel_rfl) (by kernel_rfl) (by kernel_rfl) (Pk os _)) ?_
 intro W fx args ds gs before hval0 hW hL hsh;have hval:∀ (j:Nat) t v,Tryz.f9.params[j]?=some t→args[j]?=some v→Value.okWide Tryz.prog W .any fx t v:=hval0;have hW':=hW;obtain ⟨p,q,hA0,hV,hbef,hfz,hnd⟩:=hW;have hA:DataW.TrodAll enc0 Tryz.prog W 0 (fun _=>true) true Tryz.f9.params.toList args.toList ds p:=hA0;rw[Tryz.params9] at hA hval;obtain ⟨v0,v1,d0,d1,hE,p1,rfl,rfl,rfl,aR,J⟩:=trodAll_two hA;obtain ⟨rfl,rfl⟩:=trodVars_none hV;obtain ⟨a0,c0,k0⟩:=acv abD rfl (by kernel_rfl) (hval 0 24 v0 rfl rfl) aR;have h1':=J;obtain ⟨t,rfl,rfl,rfl,ws⟩:=ChangeMaps.open_string Tryz.underlying9 (hval 1 9 v1 rfl rfl) h1';have k1:bC (enc (⟨t⟩:aG)) (.string t) [.string t]∧al W (lC W) cP (enc (⟨t⟩:aG)) [.string t]:=by
  refine ⟨by simp[bC,I.isAgg,enc],?_⟩
  show al _ _ _ (.bm t) _
  simp only[al,true_and];exact ws
 exact aaO (tb:=4) Tryz.aaN (by rw[Tryz.params9]) rfl rfl (by rw[hbef];simp) rfl rfl (by kernel_rfl) (by kernel_rfl) hW' aR J (by
  intro t ht;simp only[zx3,List.mem_nil_iff,or_false] at ht;rcases ht with rfl | rfl <;>exact ⟨by kernel_rfl,of_decide_eq_true (by kernel_rfl)⟩) (Jl a0 ⟨t⟩) (ack hL hsh) (adF ⟨c0,k0⟩ ⟨_,k1⟩)
theorem abh:Rows.MarchTextsSaid :=
 OpenClaim.holds_of_wide 9 Tryz.f9 rfl rfl rfl rfl rfl rfl rfl ⟨rfl,rfl,rfl,rfl,rfl⟩ rfl rfl rfl rfl rfl (by kernel_rfl) Tryz.func9 (by kernel_rfl)
  (of_decide_eq_true (by kernel_rfl)) (by unfold Func.isWrapper;first | (rw[if_pos (by decide +kernel)];kernel_rfl) | (rw[if_neg (by decide +kernel)];exact ⟨rfl,rfl⟩))
  (fun os started H enc0 _=>abg os started H enc0)
theorem marchTexts_holds:Rows.MarchTextsCardSaid :=
 Claim7.holds_tied_plain_at .later [] [.data, .data, .data, .data, .sentinel, .sentinel, .pinned] true (true, "01259ae690a1be7e46d49c0025a19a0d74cc7fbf1fbfbe1bb7c7bf48c5e9e55b") true
  abh (fun _ h=>by cases h) (by kernel_rfl) (fun _ h=>by cases h) marchTexts_row_tie rfl ⟨rfl,rfl⟩ (by kernel_rfl) rfl
  (fun f fn hf hfn=>by
   obtain rfl : f = 9 := Option.some.inj ((show Tryz.prog.funcNamed "pinfold/pinfoldlaw09.MarchTexts" = some 9 by kernel_rfl).symm.trans hf) |>.symm
   obtain rfl:fn=Tryz.f9:=(Option.some.inj (Tryz.func9.symm.trans hfn)).symm;exact ⟨by kernel_rfl,fun j t ht=>by
    rw[Tryz.params9] at ht;have hm:t∈[24,9]:=List.mem_of_getElem? (by simpa using ht);simp only[zx3,List.mem_nil_iff,or_false] at hm;rcases hm with rfl | rfl
    ·exact (show Tryz.prog.wantsStandIn 24=false by kernel_rfl)
    ·exact (show Tryz.prog.wantsStandIn 9=false by kernel_rfl)⟩)
  (by kernel_rfl)
#print axioms marchTexts_holds
end Go.Proofs.YthbdbocionnfgaaGreatDoor
