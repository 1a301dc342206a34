/-
  A part of the proof that the law RollWrites returns true for every input; five variables of Go's library start as the text lays them (the card ties them); conditions: none beyond the statement's own. (part 5 of 6)
-/
import Derived.ChangeArms
import Derived.Test.YtoffnnjbplgnaaaGreatDoorRows
import Derived.Test.YtoffnnjbplgnaaaGreatDoorCards
import Derived.Test.YtoffnnjbplgnaaaGreatDoorTie
import Derived.LaidMore
import Derived.MakeChecks
import Derived.Lib.LaidTab
import Derived.Lib.LaidU8
import Derived.HandedShaped
import Derived.Shelf.Vars
import Derived.Shelf.SlSortCmp.WholeK
import Derived.Shelf.SlSortCmp.NoneTotal
import Derived.Shelf.Small.Wraps
import Derived.WalkKit
import Derived.Lib.RowBridge
import Derived.Lib.SortBridge
import Derived.StillTailTactics
import Derived.Test.YtoffnnjbplgnaaaGreatDoorNdd
set_option linter.unusedSimpArgs false
set_option linter.unusedVariables false
set_option maxHeartbeats 16000000
set_option maxRecDepth 100000
namespace Go.Proofs.YtoffnnjbplgnaaaGreatDoor
open Go Go.Abs
open Go.Abs.Enc (enc)
def cN.small(r:cN):Prop:=r.bD.length≤140737488351232∧r.dh.length≤140737488351232
def cz.small(r:cz):Prop:=r.cq.small∧r.copy.small
def cN.all(r:cN):List UInt8:=r.bD++r.dh
theorem cN.qI{r:cN}(h:r.small):r.all.length≤281474976710656:=by
 have:=h.1;have:=h.2;rw[cN.all,Z1];omega
theorem jd:I.agg [.aj ⟨#[]⟩,.aj ⟨#[]⟩]=enc (⟨[],[]⟩:cN):=rfl
theorem uv:I.agg [.agg [.aj ⟨#[]⟩,.aj ⟨#[]⟩],.agg [.aj ⟨#[]⟩,.aj ⟨#[]⟩]]=enc (⟨⟨[],[]⟩,⟨[],[]⟩⟩:cz):=rfl
theorem lL:I.agg [enc (⟨[],[]⟩:cN),enc (⟨[],[]⟩:cN)]=enc (⟨⟨[],[]⟩,⟨[],[]⟩⟩:cz):=rfl
theorem eG:(∀ A n b rest (q r:cN),ep A (some 2) n [] b (enc q) rest (some (enc r))=ao rest (A.aQ n (.box (enc q))))∧(∀ A n b rest (q r:cz),ep A (some 4) n [] b (enc q) rest (some (enc r))=ao rest (A.aQ n (.box (enc q)))) ∧
  (∀ A n rest (q r:cN) (s:cz),ep A (some 2) n [0] (enc s) (enc q) rest (some (enc r))=ao rest (A.aQ n (.box (enc (⟨q,s.copy⟩:cz)))))∧(∀ A n rest (q r:cN) (s:cz),ep A (some 2) n [1] (enc s) (enc q) rest (some (enc r))=ao rest (A.aQ n (.box (enc (⟨s.cq,q⟩:cz))))) :=
 ⟨fun A n b rest q r=>by rw[fC (eZ _) (by rw[ik];rfl) ((eB _).trans (eB _).symm),fA],
  fun A n b rest q r=>by rw[fC (eZ _) (by rw[ik];rfl) ((eB _).trans (eB _).symm),fA],
  fun A n rest q r s=>by rw[fC (eZ _) (by rw[ik];rfl) ((eB _).trans (eB _).symm)];rfl,
  fun A n rest q r s=>by rw[fC (eZ _) (by rw[ik];rfl) ((eB _).trans (eB _).symm)];rfl⟩
theorem kO:(∀ x:List UInt8,fB [.aj ⟨#[]⟩,.aj ⟨#[]⟩] [(0,enc (al.of x))]=some [enc (al.of x),enc (al.of [])])∧(∀ x:List UInt8,I.agg [enc (al.of x),enc (al.of [])]=enc (⟨x,[]⟩:cN)) ∧
  (∀ p q:cN,fB [.agg [.aj ⟨#[]⟩,.aj ⟨#[]⟩],.agg [.aj ⟨#[]⟩,.aj ⟨#[]⟩]] [(0,enc p),(1,enc q)]=some [enc p,enc q])∧(∀ p q:cN,I.agg [enc p,enc q]=enc (⟨p,q⟩:cz)) ∧
  (∀ p q:cN,fB [enc (⟨[],[]⟩:cN),enc (⟨[],[]⟩:cN)] [(0,enc p),(1,enc q)]=some [enc p,enc q]) :=
 ⟨fun _=>rfl,fun _=>rfl,fun _ _=>rfl,fun _ _=>rfl,fun _ _=>rfl⟩
theorem oJ(r:cN)(h:r.small):aR Tryz.prog 73 [enc r] (enc (al.of r.all)):=by
 refine aR.bK Tryz.func73 HJ IX Kg (t8 rfl) (fun hwf W0 bB E1 =>?_);simp only[yG,CV,bA];clear hwf;have ha:=eF r.bD r.dh (by have:=h.1;have:=h.2;omega);have R:=y6 @ha (y6 @bm aC)
 repeat' ((first |refine U.aG (by decide +kernel) rfl fun K hK =>?_|(refine .aE [0,1,2] hK ?_;clear hK K)|(with_reducible refine .done (hK _ ?_);clear hK K)|refine U.of rfl ?_|(with_reducible refine av.aF (fun h =>?_) (fun h =>?_) <;>try simp only[h])) <;>try simp only[aH,R,simprocAttr])
 all_goals clear R
 all_goals rfl
def oy(r:cz):cz:=⟨⟨r.cq.all,[]⟩,⟨r.cq.all,[]⟩⟩
theorem Fg(r:cz)(h:r.small):aR Tryz.prog 20 [enc r] (enc (oy r)):=by
 refine aR.bK Tryz.func20 Hr IF JZ (t8 rfl) (fun hwf W0 bB E1 =>?_);simp only[c20,CF,bA];clear hwf;have f:=oJ r.cq h.1;have R:=y6 @kO (y6 @jd (y6 @lL (y6 @eG (y6 @bm aC))))
 repeat' ((first |refine U.aG (by decide +kernel) rfl fun K hK =>?_|refine .flat _ (f) rfl ?_|(refine .aE [0,1,2,3] hK ?_;clear hK K)|(with_reducible refine .done (hK _ ?_);clear hK K)|refine U.of rfl ?_|(with_reducible refine av.aF (fun h =>?_) (fun h =>?_) <;>try simp only[h])) <;>try simp only[aH,R,simprocAttr])
 all_goals clear R
 all_goals rfl
def o7(r:cz)(copy:Bool):cz:=if copy then ⟨r.cq,⟨[],[]⟩⟩ else ⟨⟨[],[]⟩,r.copy⟩
theorem Fh(r:cz)(b:Bool):aR Tryz.prog 24 [enc r,enc b] (enc (o7 r b)):=by
 refine aR.bK Tryz.func24 Ht IH J1 (t8 rfl) (fun hwf W0 bB E1 =>?_);simp only[yq,CH,bA,Z4];clear hwf;cases b
 ·have R:=y6 @jd (y6 @lL (y6 @eG (y6 @bm aC)))
  repeat' ((first |refine U.aG (by decide +kernel) rfl fun K hK =>?_|(refine .aE [0,1,2,4,5] hK ?_;clear hK K)|(with_reducible refine .done (hK _ ?_);clear hK K)|refine U.of rfl ?_|(with_reducible refine av.aF (fun h =>?_) (fun h =>?_) <;>try simp only[h])) <;>try simp only[aH,R,simprocAttr])
  all_goals clear R
  all_goals rfl
 ·have R:=y6 @jd (y6 @lL (y6 @eG (y6 @bm aC)))
  repeat' ((first |refine U.aG (by decide +kernel) rfl fun K hK =>?_|(refine .aE [0,1,2,4,5] hK ?_;clear hK K)|(with_reducible refine .done (hK _ ?_);clear hK K)|refine U.of rfl ?_|(with_reducible refine av.aF (fun h =>?_) (fun h =>?_) <;>try simp only[h])) <;>try simp only[aH,R,simprocAttr])
  all_goals clear R
  all_goals rfl
def ki(r:cz):cz×List ah:=(⟨⟨(sB bd c8 r.cq.all r.copy.all).2,[]⟩,⟨(sB bd c8 r.cq.all r.copy.all).2,[]⟩⟩,(sB bd c8 r.cq.all r.copy.all).1)
theorem DW(t:List UInt8):(jo bd c8 t).2.length≤t.length:=by rw[jo];simp;omega
theorem qx(r:cz)(h:r.small):aR Tryz.prog 18 [enc r] (.tuple [enc (ki r).1,enc (ki r).2]):=by
 refine aR.bK Tryz.func18 Hp ID JX (t8 rfl) (fun hwf W0 bB E1 =>?_);simp only[ym,CD,bA];clear hwf;have f1:=oJ r.cq h.1;have f2:=oJ r.copy h.2;have g1:=wY r.cq.all (cN.qI h.1);have g2:=wY r.copy.all (cN.qI h.2);have l1:=DW r.cq.all;have l2:=DW r.copy.all;have:=cN.qI h.1;have:=cN.qI h.2;have h74:=fun (x:List UInt8) (hx:x.length≤281474976710656)=>Fs (al.of x) (by rw[al.dn];exact hx);simp only[ki,sB];generalize jo bd c8 r.cq.all=p at *;generalize jo bd c8 r.copy.all=q at *;by_cases hlt:p.1.length<q.1.length
 ·have hc:decide ((q.1.length:Int)>(p.1.length:Int))=true:=decide_eq_true (by omega);have h74':=h74 q.2 (by omega);simp only[if_pos hlt];have R:=y6 @hc (y6 @kO (y6 @jd (y6 @lL (y6 @eG (y6 @bm aC)))))
  repeat' ((first |refine U.aG (by decide +kernel) rfl fun K hK =>?_|refine .flat _ (f1) rfl ?_|refine .lead _ (g1) ?_|refine .flat _ (f2) rfl ?_|refine .lead _ (g2) ?_|refine .flat _ (h74') rfl ?_|(refine .aE [0,1,2,3,4,5,6,7,8,27] hK ?_;clear hK K)|(with_reducible refine .done (hK _ ?_);clear hK K)|refine U.of rfl ?_|(with_reducible refine av.aF (fun h =>?_) (fun h =>?_) <;>try simp only[h])) <;>try simp only[aH,R,simprocAttr])
  all_goals clear R
  all_goals rfl
 ·have hc:decide ((q.1.length:Int)>(p.1.length:Int))=false:=decide_eq_false (by omega);have h74':=h74 p.2 (by omega);simp only[if_neg hlt];have R:=y6 @hc (y6 @kO (y6 @jd (y6 @lL (y6 @eG (y6 @bm aC)))))
  repeat' ((first |refine U.aG (by decide +kernel) rfl fun K hK =>?_|refine .flat _ (f1) rfl ?_|refine .lead _ (g1) ?_|refine .flat _ (f2) rfl ?_|refine .lead _ (g2) ?_|refine .flat _ (h74') rfl ?_|(refine .aE [0,1,2,3,4,5,6,7,8,27] hK ?_;clear hK K)|(with_reducible refine .done (hK _ ?_);clear hK K)|refine U.of rfl ?_|(with_reducible refine av.aF (fun h =>?_) (fun h =>?_) <;>try simp only[h])) <;>try simp only[aH,R,simprocAttr])
  all_goals clear R
  all_goals rfl
end Go.Proofs.YtoffnnjbplgnaaaGreatDoor
namespace Go.Abs
open Go Go.RowKit Go.ChangeShapes
open Enc (enc)
def xh(P:Program)(u:TypeId)(n:Nat)(S:I→Prop):Prop:=P.cellsOf u=n ∧
 ∀ {H:Type} {enc0:TypeId×Value→H} {w:World} {fuel:Nat} {cs:List Value} {x:DataW H×List MemPlace},DataW.trod enc0 P w 0 (fun _=>true) true fuel u cs=some x→(∀ k∈x.1.weights P u,k≤reachBytes)→∃ v,S v∧ae w (js w) cd v cs
theorem gO.bf{P:Program}{u:TypeId}{α:Type}[Enc α]{B:α→Prop}(h:gO P u α B):xh P u (Enc.sz α) fun v=>∃ a:α,B a∧v=enc a :=
 ⟨h.cells,fun hx hw=>by obtain ⟨a,hB,ha⟩:=h.mK hx hw;exact ⟨enc a,⟨a,hB,rfl⟩,ha⟩⟩
def lV(P:Program):Nat→List (TypeId×Nat)→List (Nat×(I→Prop))→Prop
 |_,[],[]=>True
 |o,(u,off)::l,(n,S)::Ss=>off=o∧xh P u n S∧lV P (o+n) l Ss
 |_,_,_=>False
theorem zT{P:Program}{H:Type}{enc0:TypeId×Value→H}{w:World}{m:Nat}{cs:List Value} : ∀ (l:List (TypeId×Nat)) (Ss:List (Nat×(I→Prop))) (o:Nat),lV P o l Ss→cs.length=o+qm Ss →
  (∀ (i:Nat) (u:TypeId) (off:Nat),l[i]?=some (u,off)→∃ y,DataW.trod enc0 P w 0 (fun _=>true) true m u ((cs.drop off).take (P.cellsOf u))=some y∧∀ k∈y.1.weights P u,k≤reachBytes)→∃ vs,nA Ss vs∧az w (js w) cd vs (cs.drop o)
 | [],[],o,_,hl,_=>⟨[],trivial,by simp only[az];exact List.drop_eq_nil_of_le (by simp only[qm] at hl;omega)⟩
 |(u,off)::l,(n,S)::Ss,o,h,hl,hf=>by
  obtain ⟨rfl,h2,h3⟩:=h;obtain ⟨y,hy,hyw⟩:=hf 0 u off rfl;obtain ⟨v,hv1,hv2⟩:=h2.2 hy hyw;obtain ⟨vs,k1,k2⟩:=zT l Ss (off+n) h3 (by simp only[qm] at hl;omega) fun i u' o' hi=>hf (i+1) u' o' hi;refine ⟨v::vs,⟨hv1,k1⟩,?_⟩;simp only[az];rw[h2.1] at hv2;exact ⟨_,(cs.drop off).drop n,(List.take_append_drop n _).symm,hv2,by rw[List.drop_drop];exact k2⟩
 | [],_::_,_,h,_,_=>h.elim
 |_::_,[],_,h,_,_=>by simp[lV] at h
theorem sC{P:Program}{t:TypeId}{H:Type}{enc0:TypeId×Value→H}{w:World}{fuel:Nat}{cs:List Value}{x:DataW H×List MemPlace}(l:List (TypeId×Nat))(Ss:List (Nat×(I→Prop)))(ht:rP P t l=true)(hok:lV P 0 l Ss)(hc:P.cellsOf t=qm Ss)(h:DataW.trod enc0 P w 0 (fun _=>true) true fuel t cs=some x)(hw:∀ k∈x.1.weights P t,k≤reachBytes) :
  ∃ vs,nA Ss vs∧ae w (js w) cd (.agg vs) cs:=by
 obtain ⟨hl,m,hf⟩:=Ya ht h hw;obtain ⟨vs,k1,k2⟩:=zT l Ss 0 hok (by rw[hl,hc];omega) hf;exact ⟨vs,k1,by simpa only[ae,List.drop_zero] using k2⟩
theorem WG{P:Program}{t:TypeId}(ht:P.underlying t=some .string)(hc:P.cellsOf t=1):gO P t al fun s=>s.l.length≤140737488351232 :=
 ⟨hc,Nat.one_pos,fun {H enc0 w fuel cs x} h hw=>by
  obtain ⟨s,rfl,rfl,hs⟩:=DataW.trod_string ht h;refine ⟨⟨s⟩,?_,?_⟩
  ·have:=hw s.data.toList.length (by simp[DataW.weights]);exact this
  ·show ae _ _ _ (.aj s) _
   simp only[ae,true_and];exact hs⟩
theorem WH{P:Program}{t:TypeId}{α:Type}[Enc α]{B:α→Prop}{H:Type}{enc0:TypeId×Value→H}{w:World}{dK:Nat}{v:Value}{d:DataW H}{p:List MemPlace}(ho:gO P t α B)(hA:Enc.gi α=false)(hst:(match P.underlying t with | some (.slice _) | some (.int _) | some .bool | some .string=>true | _=>false)=true)(hv:Value.okWide P w .any dK t v)
  (h:DataW.Trod enc0 P w 0 (fun _=>true) true t v d p) (hwt:∀ k∈d.weights P t,k≤reachBytes):∃ (a:α),B a∧∃ (cs:List Value),aY (enc a) v cs∧ae w (js w) cd (enc a) cs:=by
 obtain ⟨fuel,h⟩:=h;have hone:v.cells.toList=[v]:=by
  unfold Value.okWide at hv;split at hst
  ·rename_i e ht;rw[ht] at hv;simp only[Cell.okWide,ht] at hv;cases v <;>simp_all[Cell.ok,Value.cells]
  ·rename_i e ht;rw[ht] at hv;simp only[Cell.okWide,ht] at hv;cases v <;>simp_all[Cell.ok,Value.cells]
  ·rename_i ht;rw[ht] at hv;simp only[Cell.okWide,ht] at hv;cases v <;>simp_all[Cell.ok,Value.cells]
  ·rename_i ht;rw[ht] at hv;simp only[Cell.okWide,ht] at hv;cases v <;>simp_all[Cell.ok,Value.cells]
  ·cases hst
 rw[hone] at h;obtain ⟨a,hB,ha⟩:=ho.mK h hwt;exact ⟨a,hB,[v],by simp[aY,Enc.agg,hA],ha⟩
end Go.Abs
namespace Go.Proofs.YtoffnnjbplgnaaaGreatDoor
open Go Go.Abs Go.ChangeShapes Go.WideShapes Go.RowKit
open Go.Abs.Enc (enc)
theorem Tryz.own:ownKnob Tryz.prog.godebug=none:=by kernel_rfl
theorem Tryz.UZ:laidOutB Tryz.prog=true:=by kernel_rfl
theorem VL:qD Tryz.prog 3 Int:=WI (by kernel_rfl) (by kernel_rfl)
theorem oU:gO Tryz.prog 3 Int fun _=>True:=VL.WD
theorem tP:gO Tryz.prog 9 al fun s=>s.l.length≤140737488351232:=WG (by kernel_rfl) (by kernel_rfl)
theorem xC:gO Tryz.prog 29 cN fun a=>a.small:=⟨by kernel_rfl,by decide,fun h hw=>by
 obtain ⟨vs,hv,hr⟩:=sC [(9,0),(9,1)]
  [(1,fun v=>∃ a:al,a.l.length≤140737488351232∧v=enc a),(1,fun v=>∃ a:al,a.l.length≤140737488351232∧v=enc a)]
  (by kernel_rfl) (by simp only[lV];exact ⟨trivial,tP.bf,trivial,tP.bf,trivial⟩) (by kernel_rfl) h hw
 obtain ⟨v0,vs0,e0,h0,hv0⟩:=iZ hv;obtain ⟨a0,p0,f0⟩:∃ a:al,a.l.length≤140737488351232∧v0=enc a:=h0;obtain ⟨v1,vs1,e1,h1,hv1⟩:=iZ hv0;obtain ⟨a1,p1,f1⟩:∃ a:al,a.l.length≤140737488351232∧v1=enc a:=h1;have e2:=qH hv1;rw[e0,e1,e2,f0,f1] at hr;refine ⟨⟨a0.l,a1.l⟩,⟨p0,p1⟩,?_⟩;exact hr⟩
theorem Gk:gO Tryz.prog 31 cz fun a=>a.small:=⟨by kernel_rfl,by decide,fun h hw=>by
 obtain ⟨vs,hv,hr⟩:=sC [(29,0),(29,2)]
  [(2,fun v=>∃ a:cN,a.small∧v=enc a),(2,fun v=>∃ a:cN,a.small∧v=enc a)]
  (by kernel_rfl) (by simp only[lV];exact ⟨trivial,xC.bf,trivial,xC.bf,trivial⟩) (by kernel_rfl) h hw
 obtain ⟨v0,vs0,e0,h0,hv0⟩:=iZ hv;obtain ⟨a0,p0,f0⟩:∃ a:cN,a.small∧v0=enc a:=h0;obtain ⟨v1,vs1,e1,h1,hv1⟩:=iZ hv0;obtain ⟨a1,p1,f1⟩:∃ a:cN,a.small∧v1=enc a:=h1;have e2:=qH hv1;rw[e0,e1,e2,f0,f1] at hr;refine ⟨⟨a0,a1⟩,⟨p0,p1⟩,?_⟩;exact hr⟩
theorem xA:gO Tryz.prog 48 Item fun a=>True:=⟨by kernel_rfl,by decide,fun h hw=>by
 obtain ⟨vs,hv,hr⟩:=sC [(3,0),(3,1)]
  [(1,fun v=>∃ a:Int,True∧v=enc a),(1,fun v=>∃ a:Int,True∧v=enc a)]
  (by kernel_rfl) (by simp only[lV];exact ⟨trivial,oU.bf,trivial,oU.bf,trivial⟩) (by kernel_rfl) h hw
 obtain ⟨v0,vs0,e0,h0,hv0⟩:=iZ hv;obtain ⟨a0,p0,f0⟩:∃ a:Int,True∧v0=enc a:=h0;obtain ⟨v1,vs1,e1,h1,hv1⟩:=iZ hv0;obtain ⟨a1,p1,f1⟩:∃ a:Int,True∧v1=enc a:=h1;have e2:=qH hv1;rw[e0,e1,e2,f0,f1] at hr;refine ⟨⟨a0,a1⟩,trivial,?_⟩;exact hr⟩
theorem xB:gO Tryz.prog 50 ah fun a=>a.text.length≤140737488351232:=⟨by kernel_rfl,by decide,fun h hw=>by
 obtain ⟨vs,hv,hr⟩:=sC [(48,0),(3,2),(3,3),(3,4),(48,5),(9,7)]
  [(2,fun v=>∃ a:Item,True∧v=enc a),(1,fun v=>∃ a:Int,True∧v=enc a),(1,fun v=>∃ a:Int,True∧v=enc a),(1,fun v=>∃ a:Int,True∧v=enc a),(2,fun v=>∃ a:Item,True∧v=enc a),(1,fun v=>∃ a:al,a.l.length≤140737488351232∧v=enc a)]
  (by kernel_rfl) (by simp only[lV];exact ⟨trivial,xA.bf,trivial,oU.bf,trivial,oU.bf,trivial,oU.bf,trivial,xA.bf,trivial,tP.bf,trivial⟩) (by kernel_rfl) h hw
 obtain ⟨v0,vs0,e0,h0,hv0⟩:=iZ hv;obtain ⟨a0,p0,f0⟩:∃ a:Item,True∧v0=enc a:=h0;obtain ⟨v1,vs1,e1,h1,hv1⟩:=iZ hv0;obtain ⟨a1,p1,f1⟩:∃ a:Int,True∧v1=enc a:=h1;obtain ⟨v2,vs2,e2,h2,hv2⟩:=iZ hv1;obtain ⟨a2,p2,f2⟩:∃ a:Int,True∧v2=enc a:=h2;obtain ⟨v3,vs3,e3,h3,hv3⟩:=iZ hv2;obtain ⟨a3,p3,f3⟩:∃ a:Int,True∧v3=enc a:=h3;obtain ⟨v4,vs4,e4,h4,hv4⟩:=iZ hv3;obtain ⟨a4,p4,f4⟩:∃ a:Item,True∧v4=enc a:=h4;obtain ⟨v5,vs5,e5,h5,hv5⟩:=iZ hv4;obtain ⟨a5,p5,f5⟩:∃ a:al,a.l.length≤140737488351232∧v5=enc a:=h5;have e6:=qH hv5;rw[e0,e1,e2,e3,e4,e5,e6,f0,f1,f2,f3,f4,f5] at hr;refine ⟨⟨a0.aO,a0.no,a1,a2,a3,a4.aO,a4.no,a5.l⟩,p5,?_⟩;exact hr⟩
theorem GP:Tryz.prog.bytesOf 50=72:=by kernel_rfl
theorem Gj:gO Tryz.prog 23 (List ah) fun l=>(∀ r∈l,r.text.length≤140737488351232)∧l.length*72≤reachBytes:=by
 have h:=WE (P:=Tryz.prog) (t:=23) (e:=50) (by kernel_rfl) xB (by kernel_rfl);exact ⟨h.cells,h.sE,fun hx hw=>by
  obtain ⟨a,⟨h1,h2⟩,h3⟩:=h.mK hx hw;rw[GP] at h2;exact ⟨a,⟨h1,h2⟩,h3⟩⟩
theorem XP{w:World}{D:aJ}{E:aM}{x y z:I}{a b c:Value}(hx:∃ cs,aY x a cs∧ae w D E x cs)(hy:∃ cs,aY y b cs∧ae w D E y cs)(hz:∃ cs,aY z c cs∧ae w D E z cs):ak w D E [x,y,z] [a,b,c]:=by
 obtain ⟨c1,h1,h2⟩:=hx;obtain ⟨c2,h3,h4⟩:=hy;obtain ⟨c3,h5,h6⟩:=hz;simp only[ak];exact ⟨a,[b,c],c1,rfl,h1,h2,b,[c],c2,rfl,h3,h4,c,[],c3,rfl,h5,h6,rfl⟩
def jh : List (String × DataW Unit) := [("math/bits.deBruijn32tab", Rows.laid_math_bits_deBruijn32tab), ("math/bits.deBruijn64tab", Rows.laid_math_bits_deBruijn64tab), ("internal/strconv.uint64pow10", Rows.laid_internal_strconv_uint64pow10), ("strconv.ErrRange", Rows.laid_strconv_ErrRange), ("strconv.ErrSyntax", Rows.laid_strconv_ErrSyntax)]
def EL:List Int:=[1,10,100,1000,10000,100000,1000000,10000000,100000000,1000000000,10000000000,100000000000,1000000000000,10000000000000,100000000000000,1000000000000000,10000000000000000,100000000000000000,1000000000000000000,10000000000000000000]
theorem Tt : Tryz.prog.globalNamed "internal/strconv.uint64pow10" = some 3 := by kernel_rfl
theorem Yf:(Tryz.prog.globals[3]?).map (·.type)=some 256:=by kernel_rfl
theorem Ts : Tryz.prog.globalNamed "internal/bytealg.MaxLen" = some 0 := by kernel_rfl
theorem De:((begin Tryz.prog (fun _ _=>0) default).world.heap[0]?).bind Obj.row?=some (#[.int .i64 0],3):=by kernel_rfl
theorem Tv : Tryz.prog.globalNamed "strconv.ErrSyntax" = some 1 := by kernel_rfl
theorem Tu : Tryz.prog.globalNamed "strconv.ErrRange" = some 2 := by kernel_rfl
theorem Eu:(Tryz.prog.globals[1]?).map (·.type)=some 199∧(Tryz.prog.globals[2]?).map (·.type)=some 199:=⟨by kernel_rfl,by kernel_rfl⟩
theorem AP:(match Tryz.prog.underlying 199 with | some (.interface _)=>true | _=>false)=true:=by kernel_rfl
theorem Vx {W : World} (hsh : W.ShapedOpen Tryz.prog) : ∃ v, W.var? Tryz.prog "internal/bytealg.MaxLen" = some v ∧ rT .int v := by
 obtain ⟨m,hm⟩:=cell_of_shapedOpen_int (k:=.i64) hsh (show 0<Tryz.prog.globals.size from of_decide_eq_true (by kernel_rfl)) De rfl (by kernel_rfl) (by kernel_rfl) (by kernel_rfl);obtain ⟨cs,hh,hs,_⟩:=hsh.1 0 _ _ (show 0<Tryz.prog.globals.size from of_decide_eq_true (by kernel_rfl)) De;refine ⟨cs,?_,m,?_⟩
 ·unfold World.var?;rw[Ts];simp only[Option.bind_some];revert hh;cases hb:W.heap[0]? with
  |none=>intro hh;simp at hh
  |some o =>
   intro hh;cases o <;>simp[] at hh
   simp[hh]
 ·have h1:cs.size=1:=hs;have hcell:W.cell? ⟨0,0,none⟩=cs[0]?:=by
   unfold World.cell?;revert hh;cases hb:W.heap[0]? with
   |none=>intro hh;simp at hh
   |some o =>
    intro hh;cases o <;>simp[] at hh
    rw[←hh.1];rfl
  rw[hcell] at hm;apply Array.ext
  ·simp[h1]
  ·intro i h2 h3;obtain rfl:i=0:=by simp at h3;omega
   have:=(Y2.1 hm).2;simpa using this
theorem zN {W : World} (h : laidMet Tryz.prog jh W) {n : String} {text : List UInt8} {g : Nat} (hn : (n, DataW.iface "*errors.errorString" (.ptr (.agg [.lit (.string text)]))) ∈ jh) (hg : Tryz.prog.globalNamed n = some g) (ht : (Tryz.prog.globals[g]?).map (·.type) = some 199) :
  ∃ v,W.var? Tryz.prog n=some v∧rT .nN v:=by
 obtain ⟨g',t',cs,fuel,p,hg',ht',hvar,hd⟩:=Lib.laidMet.reads h hn;obtain rfl:=Option.some.inj (hg.symm.trans hg');obtain rfl:=Option.some.inj (ht.symm.trans ht');cases hi:Tryz.prog.underlying 199 with
 |none=>have:=AP;rw[hi] at this;cases this
 |some d =>
  cases d <;>(try (have:=AP;rw[hi] at this;cases this;done))
  obtain ⟨_,u,v,hcs,_,_⟩:=iface_of_trod hi hd;refine ⟨cs,hvar,u,v,?_⟩;apply Array.ext';simpa using hcs
theorem Ws{W:World}(h:laidMetH Tryz.prog jh W)(hsh:W.ShapedOpen Tryz.prog):ew Tryz.prog W (fun _=>False):=by
 rw[MakeChecks.laidMetH_plain _ _ _ (by kernel_rfl)] at h;intro q hq g hg;refine ⟨id,?_⟩;simp only[mC,zy0,List.not_mem_nil,or_false] at hq;rcases hq with rfl | rfl | rfl | rfl
 ·obtain ⟨g', t', cs, fuel, p, hg', ht', hvar, hd⟩ := Lib.laidMet.reads h (n := "internal/strconv.uint64pow10") (d := Rows.laid_internal_strconv_uint64pow10) (by simp [jh])
  obtain rfl:=Option.some.inj (Tt.symm.trans hg');obtain rfl:=Option.some.inj (Yf.symm.trans ht');have hd':DataW.trod (fun _=>()) Tryz.prog W 0 (fun _=>true) false fuel 256 cs.toList=some (Lib.tabData .u64 EL,p):=hd;have hc:=Lib.cells_of_tab (n:=20) (e:=227) (UI (by kernel_rfl)) (by kernel_rfl) (by kernel_rfl) (by kernel_rfl) hd';refine ⟨cs,hvar,?_⟩
  show cs=A4
  have:cs=(EL.map fun z=>Value.int .u64 z).toArray:=by rw[←hc]
  rw[this];rfl
 ·exact Vx hsh
 ·exact zN h (n := "strconv.ErrSyntax") (text := [105, 110, 118, 97, 108, 105, 100, 32, 115, 121, 110, 116, 97, 120]) (by simp [jh, Rows.laid_strconv_ErrSyntax]) Tv Eu.1
 ·exact zN h (n := "strconv.ErrRange") (text := [118, 97, 108, 117, 101, 32, 111, 117, 116, 32, 111, 102, 32, 114, 97, 110, 103, 101]) (by simp [jh, Rows.laid_strconv_ErrRange]) Tu Eu.2
theorem XG{H:Type}{enc0:TypeId×Value→H}{a:Assume}{C:Checked}{os:Os}{f:FuncId}{fn:Func}{s:ChangeSpec}{conds:List PathCond}{apart jA handsOn again:Bool}{X:World→Array Value→Prop}
  (hX:∀ (w w':World) (args:Array Value),w.heap=w'.heap→X w args→X w' args)
  (own:ownKnob C.prog.godebug=none) (started:os.Started) (noInit:C.prog.inits.idxOf? f=none) (hfn:C.prog.funcs[f]?=some fn)
  (witness:∃ (w:World) (tape:Tape) (i:Input),w.os=os∧(w.forCall tape i).Shaped C.prog∧i.vars=[]∧Input.okWide C.prog (w.forCall tape i) .any w.heap.size f i ∧
   ((s.pre enc0 C.prog fn conds apart (w.forCall tape i).memory i.args∧X (w.forCall tape i).memory i.args)∧sizedMet enc0 C.prog fn (OpenSpec.ofChange s) apart (w.forCall tape i).memory i.args)∧a.holds C.prog (lone (Frame.enter C.prog f i.args .normal) [] (w.forCall tape i)))
  (contract:∀ (W:World) (dK:Nat) (args:Array Value) (ds gs:List (DataW H)) (before:List MemPlace),
   (∀ (j:Nat) t v,fn.params[j]?=some t→args[j]?=some v→Value.okWide C.prog W .any dK t v) →
   DataW.Whole enc0 C.prog fn.params.toList s.vars apart W args.toList ds gs before →
   (DataW.weightsEach C.prog (fn.params.toList++s.plain.varTypes C.prog) (ds++gs)).all (· ≤ reachBytes)=true→X W args→W.ShapedOpen C.prog →
   Calls C.prog f args W fun e W'=>∃ v,e=.returned v∧s.post enc0 C.prog fn apart jA handsOn again W args v W') :
  ReturnsInHanded a C os f .any (fun w args=>(s.pre enc0 C.prog fn conds apart w args∧X w args)∧sizedMet enc0 C.prog fn (OpenSpec.ofChange s) apart w args) (s.post enc0 C.prog fn apart jA handsOn again):=by
 refine returnsInHanded_of_calls own started noInit witness ?_;intro w tape i _ hsh _ hok hpre _;obtain ⟨_,_,_,fn',hfn',_,_,_,_,hval⟩:=hok;have e:fn'=fn:=Option.some.inj (hfn'.symm.trans hfn);subst e;obtain ⟨⟨⟨ds,gs,before,hw,_⟩,hx⟩,hz⟩:=hpre;have hw':=DataW.Whole.of_heap (w':=w.forCall tape i) (by rfl) hw;refine (contract (w.forCall tape i) w.heap.size i.args ds gs before hval hw' (hz.weights hw) (hX _ _ _ (by rfl) hx) hsh).mono fun e W' ⟨v,he,hp⟩ =>?_;subst he;exact ChangeSpec.post_blind hp
end Go.Proofs.YtoffnnjbplgnaaaGreatDoor
namespace Go.Proofs.YtoffnnjbplgnaaaGreatDoor
open Go Go.Abs
open Go.Abs.Enc (enc)
def cn:ah:=default
theorem kU:I.agg [.agg [.int .i64 0,.int .i64 0],.int .i64 0,.int .i64 0,.int .i64 0,.agg [.int .i64 0,.int .i64 0],.aj ⟨#[]⟩]=enc cn:=rfl
theorem Ef{A:ab}{l:List ah} : jS A 8 (enc l)=some (l.map enc):=kD A 8 l rfl
theorem Eg{A:ab}{n lo k:Nat}{xs:List ah}(ho:A.o n=some (.box (.agg (xs.map enc))))(hl:lo+k≤xs.length):jS A 8 (.view n [] 8 lo k)=some (((xs.drop lo).take k).map enc):=nd ho hl
theorem fI{k:Nat}{a:ai}{m:Nat} : aI [(k,a)] m=true↔m=k:=by
 constructor
 ·intro h;simp only[aI,aD] at h;split at h
  ·assumption
  ·simp at h
 ·rintro rfl;simp[aI,aD]
theorem AM{A:ab}{k k':Nat}{c c':I}(h1:A.o k=some (.box c))(h2:∀ p,c.only p=true)(h1':A.o k'=some (.box c'))(h2':∀ p,c'.only p=true):∀ n x,aD [(k,.box c),(k',.box c')] n=some x→A.o n=some x∧x.only (aI [(k,.box c),(k',.box c')])=true∧x.ed=true:=fun n x h=>by
 simp only[aD] at h;split at h
 ·rename_i hn;subst hn;simp only[v6] at h;subst h;exact ⟨h1,h2 _,rfl⟩
 ·split at h
  ·rename_i hn;subst hn;simp only[v6] at h;subst h;exact ⟨h1',h2' _,rfl⟩
  ·cases h
theorem fk(p:Nat→Bool)(l:List ah):(I.agg (l.map enc)).only p=true:=by simp only[I.only];exact sA p l
def eO(k:Nat)(l:List ah)(m:Nat):List (Nat×ai):=[(k,.box (.agg ((l++List.replicate m cn).map enc)))]
def o9(l:List ah):bX:=fun r os'=>(l=[]∧(r=.nils 8∨r=.c0 8)∧os'=[])∨(l≠[]∧∃ m,r=.view 7 [] 8 0 l.length∧os'=eO 7 l m)
theorem tz(l:List ah)(hl:l.length≤1000):eL Tryz.prog 93 [enc l] [] (o9 l):=by
 refine eL.bK Tryz.func93 y8 ze zp (t8 rfl) (t8 rfl) (fun m hm=>by simp[aI,aD] at hm) (fun hwf W0 bB E1 =>?_);simp only[tY,vO,bA];refine .dI (by decide +kernel) fun K hK =>?_;simp only[uU,aZ];refine .done (hK _ ?_);clear hK K;refine U.seq (U.seq ?_);by_cases hn:l=[]
 ·subst hn;refine .gW (by decide +kernel) fun K hK =>?_;simp only[pq,aZ,Nat.reduceEqDiff,reduceIte];simp only[th,List.isEmpty_nil,oe];refine .any rfl fun b _ =>?_
  try simp only[aZ]
  generalize (b==0)=t;cases t
  ·refine .done (hK _ ?_);clear hK K;try simp only[cQ]
   refine U.gC ?_;simp only[av,aZ,Nat.reduceEqDiff,reduceIte];refine ⟨fun h =>?_,fun h =>?_⟩
   ·cases h
   refine U.skip ?_;try simp only[cQ]
   refine .dI (by decide +kernel) fun K hK =>?_;simp only[pt,aZ]
   try simp only[gr,kU,aZ,Nat.reduceEqDiff,reduceIte]
   refine .done (hK _ ?_);clear hK K;refine U.ret ?_;simp only[jN];exact ⟨[],[.c0 8],u3,⟨⟨.c0 8,rfl,.inl ⟨rfl,rfl,rfl⟩⟩,trivial⟩,.inl ⟨rfl,.inr rfl,rfl⟩⟩
  ·refine .done (hK _ ?_);clear hK K;refine U.gC ?_;simp only[av,aZ,Nat.reduceEqDiff,reduceIte];refine ⟨fun h =>?_,fun h =>?_⟩
   ·refine .dI (by decide +kernel) fun K hK =>?_;simp only[uV,aZ];refine .done (hK _ ?_);clear hK K;refine U.ret ?_;simp only[cQ,jN];exact ⟨[],[.nils 8],u3,⟨⟨.nils 8,rfl,.inl ⟨rfl,rfl,rfl⟩⟩,trivial⟩,.inl ⟨rfl,.inl rfl,rfl⟩⟩
   ·cases h
 ·have hu:iT (enc l)=false:=by rw[th];simpa using hn
  refine .gW (by decide +kernel) fun K hK =>?_;simp only[pq,aZ,Nat.reduceEqDiff,reduceIte]
  try simp only[hu,Bw _ l hn,aZ]
  refine .done (hK _ ?_);clear hK K;try simp only[cQ]
  refine U.gC ?_;simp only[av,aZ,Nat.reduceEqDiff,reduceIte];refine ⟨fun h =>?_,fun h =>?_⟩
  ·cases h
  refine U.skip ?_;try simp only[cQ]
  refine .dI (by decide +kernel) fun K hK =>?_;simp only[pt,aZ]
  try simp only[gr,kU,aZ,Nat.reduceEqDiff,reduceIte]
  refine aX.tK cn rfl hn rfl (by omega) (by simp only[maxLen];omega) fun m =>?_
  try simp only[aZ,Nat.reduceEqDiff,reduceIte]
  refine .done (hK _ ?_);clear hK K;refine U.ret ?_;simp only[jN];exact ⟨eO 7 l m,[.view 7 [] 8 0 l.length],nT rfl (fun p=>fk p _),⟨⟨_,rfl,.inl ⟨rfl,rfl,rfl⟩⟩,trivial⟩,.inr ⟨hn,m,rfl,rfl⟩⟩
def fU(l:List ah)(i:Nat)(g:ah):List ah:=l.take i++g::l.drop i
theorem UH{l:List ah}{i:Nat}(g:ah)(h:i≤l.length):(fU l i g).length=l.length+1:=by
 simp only[fU,Z1,Y0,zy1,List.length_drop];omega
def AT(l:List ah)(i:Nat)(g:ah)(k:Nat):bX:=fun r os' =>
 (∃ q,r=.view 1000000 [] 8 0 (l.length+1)∧os'=eO 1000000 (fU l i g) q)∨∃ d q,(d=25∨d=40)∧r=.view d [] 8 0 (l.length+1)∧os'=eO d (fU l i g) q++eO 1000000 l k
theorem Vq(l:List ah)(i q:Nat)(g:ah)(h:i<l.length)(xs:List ah)(hx:xs=l.take i++(List.replicate (l.length+1-i) cn++List.replicate q cn))(ys:List ah)(hy:ys=xs.take i++([g].take 1++xs.drop (i+1))) :
  ys.take (i+1)++((((l++List.replicate 0 cn).drop i).take (l.length-i)).take (l.length-i)++ys.drop (i+1+(l.length-i)))=fU l i g++List.replicate q cn:=by
 have e1:xs.take i=l.take i:=by rw[hx,List.take_append_of_le_length (by rw[Y0];omega),List.take_take,Nat.min_self]
 have e2:xs.drop (i+1)=List.replicate (l.length-i+q) cn:=by
  have hl:(l.take i).length=i:=by rw[Y0];omega
  rw[hx,List.replicate_append_replicate,List.drop_append,hl,List.drop_eq_nil_of_le (by rw[hl];omega),Y6,List.drop_replicate]
  congr 1;omega
 have e3:ys=(l.take i++[g])++List.replicate (l.length-i+q) cn:=by rw[hy,e1,e2];simp
 have hl2:(l.take i++[g]).length=i+1:=by rw[Z1,Y0];simp;omega
 have e4:ys.take (i+1)=l.take i++[g]:=by rw[e3,←hl2,List.take_left]
 have e5:ys.drop (i+1+(l.length-i))=List.replicate q cn:=by
  rw[e3,List.drop_append,hl2,List.drop_eq_nil_of_le (by rw[hl2];omega),Y6,List.drop_replicate]
  congr 1;omega
 have e6:(((l++List.replicate 0 cn).drop i).take (l.length-i)).take (l.length-i)=l.drop i:=by
  rw[List.replicate_zero,List.append_nil,List.take_take,Nat.min_self,List.take_of_length_le (by rw[List.length_drop];omega)]
 rw[e4,e5,e6];simp[fU]
theorem Vp(l:List ah)(i k:Nat)(g:ah)(h:i<l.length)(hk:1≤k)(xs:List ah)(hx:xs=l++List.replicate k cn)(ys:List ah)(hy:ys=xs.take (i+1)++(((xs.drop i).take (l.length+1-i)).take (l.length-i)++xs.drop (i+1+(l.length-i)))) :
  ys.take i++([g].take 1++ys.drop (i+1))=fU l i g++List.replicate (k-1) cn:=by
 have e1:((xs.drop i).take (l.length+1-i)).take (l.length-i)=l.drop i:=by
  rw[List.take_take,Nat.min_eq_left (by omega),hx,List.drop_append_of_le_length (by omega),List.take_append_of_le_length (by rw[List.length_drop];omega),List.take_of_length_le (by rw[List.length_drop];omega)]
 have e2:xs.drop (i+1+(l.length-i))=List.replicate (k-1) cn:=by
  rw[hx,List.drop_append,List.drop_eq_nil_of_le (by omega),Y6,List.drop_replicate]
  congr 1;omega
 have hl:(xs.take (i+1)).length=i+1:=by rw[Y0,hx,Z1];omega
 have e3:ys.take i=l.take i:=by
  rw[hy,List.take_append_of_le_length (by omega),List.take_take,Nat.min_eq_left (by omega),hx,List.take_append_of_le_length (by omega)]
 have e4:ys.drop (i+1)=l.drop i++List.replicate (k-1) cn:=by
  rw[hy,e1,e2];exact List.drop_left' hl
 rw[e3,e4];simp[fU]
theorem EN(l:List ah)(i:Nat)(g:ah)(k:Nat)(hi:i≤l.length)(hn:l≠[])(hlen:l.length≤1000) :
  eL Tryz.prog 101 [.view 1000000 [] 8 0 l.length,enc (i:Int),enc [g]] (eO 1000000 l k) (AT l i g k):=by
 refine eL.bK Tryz.func101 ua uc ui (t8 rfl) (t8 rfl) (fun m hm=>by rw[fI.1 hm];exact Z7 _) (fun hwf W0 bB E1 =>?_);simp only[qQ,sH,bA,Z4,Nat.reduceAdd];simp only[eO];have hl0:0<l.length:=List.length_pos_iff.2 hn;have htot:((l++List.replicate k cn).map (enc (α:=ah))).length=l.length+k:=by simp
 refine .dI (by decide +kernel) fun K hK =>?_;simp only[rq,aZ];refine .done (hK _ ?_);clear hK K;obtain ⟨y,hy⟩:=X1 (n:=1000000) (p:=[]) (sz:=8) hi (show l.length≤l.length+k by omega);refine .dI (by decide +kernel) fun K hK =>?_;simp only[rr,aZ,Nat.reduceEqDiff,reduceIte]
 try simp only[gr,htot,zz4,hy,aZ,reduceIte]
 refine .done (hK _ ?_);clear hK K;refine .dI (by decide +kernel) fun K hK =>?_;simp only[ru,aZ,Nat.reduceEqDiff,reduceIte]
 try simp only[typR,iU,jJ,iJ,aZ,Nat.reduceEqDiff,reduceIte,Int.reduceBNe,Int.reduceBEq]
 refine .done (hK _ ?_);clear hK K;refine U.seq (U.seq ?_);refine .gW (by decide +kernel) fun K hK =>?_;simp only[rv,aZ,Nat.reduceEqDiff,reduceIte]
 try simp only[typR,iU,jJ,iJ,aZ,Nat.reduceEqDiff,reduceIte,Int.reduceBNe,Int.reduceBEq]
 refine .done (hK _ ?_);clear hK K;try simp only[cQ]
 refine U.gC ?_;simp only[av,aZ,Nat.reduceEqDiff,reduceIte];refine ⟨fun h =>?_,fun h =>?_⟩
 ·first | cases h | simp at h
 refine U.skip ?_;try simp only[cQ]
 refine .dI (by decide +kernel) fun K hK =>?_;simp only[ry,aZ,Nat.reduceEqDiff,reduceIte]
 try simp only[gr,aZ,Nat.reduceEqDiff,reduceIte]
 refine .done (hK _ ?_);clear hK K;refine U.seq (U.seq ?_);refine .gW (by decide +kernel) fun K hK =>?_;simp only[rz,aZ,Nat.reduceEqDiff,reduceIte]
 try simp only[typR,iU,jJ,iJ,aZ,Nat.reduceEqDiff,reduceIte,Int.reduceBNe,Int.reduceBEq]
 refine .done (hK _ ?_);clear hK K;try simp only[cQ]
 have hA:∀ ts,(aw ts [(1000000,.box (.agg ((l++List.replicate k cn).map (enc (α:=ah)))))]).o 1000000=some (.box (.agg ((l++List.replicate k cn).map enc))):=fun _=>rfl;have hN:∀ ts (d:Nat),d≠1000000→(aw ts [(1000000,.box (.agg ((l++List.replicate k cn).map (enc (α:=ah)))))]).o d=none:=fun ts d hd=>by
  have:¬ d=1000000:=hd;simp[aw,aD,this]
 refine U.gC ?_;simp only[av,aZ,Nat.reduceEqDiff,reduceIte];refine ⟨fun h =>?_,fun h =>?_⟩
 ·have hil:i=l.length:=by
   have:(i:Int)=l.length:=by simpa using h
   omega
  subst hil;by_cases hk:k=0
  ·subst hk;refine .dI (by decide +kernel) fun K hK =>?_;simp only[po,aZ,Nat.reduceEqDiff,reduceIte]
   try simp only[kU]
   refine aX.F2 (esz:=8) cn rfl (xs:=l++List.replicate 0 cn) (ys:=[g]) (by simp) (hA _) (by simp) (by simp) (hN _ 25 (by decide)) (by simp;omega) (by simp[maxLen];omega) fun q =>?_;have hc:(l++List.replicate 0 cn).take l.length++([g]++List.replicate q cn)=fU l l.length g++List.replicate q cn:=by simp[fU]
   rw[hc]
   try simp only[List.length_singleton,aZ,Nat.reduceEqDiff,reduceIte]
   refine .done (hK _ ?_);clear hK K;refine U.ret ?_;simp only[cQ,jN];exact ⟨eO 25 (fU l l.length g) q++eO 1000000 l 0,[.view 25 [] 8 0 (l.length+1)],AM rfl (fun p=>fk p _) rfl (fun p=>fk p _),⟨⟨_,rfl,.inl ⟨rfl,rfl,rfl⟩⟩,trivial⟩,.inr ⟨25,q,.inl rfl,rfl,rfl⟩⟩
  ·refine .dI (by decide +kernel) fun K hK =>?_;simp only[po,aZ,Nat.reduceEqDiff,reduceIte]
   try simp only[kU]
   rw[xu (esz:=8) _ rfl (xs:=l++List.replicate k cn) (ys:=[g]) (by simp) (hA _) (by simp;omega)];have hc:(l++List.replicate k cn).take l.length++([g]++(l++List.replicate k cn).drop (l.length+[g].length))=fU l l.length g++List.replicate (k-1) cn:=by
    simp[fU,List.drop_append]
   rw[hc]
   try simp only[List.length_singleton,aZ,Nat.reduceEqDiff,reduceIte]
   refine .done (hK _ ?_);clear hK K;refine U.ret ?_;simp only[cQ,jN];exact ⟨eO 1000000 (fU l l.length g) (k-1),[.view 1000000 [] 8 0 (l.length+1)],nT rfl (fun p=>fk p _),⟨⟨_,rfl,.inl ⟨rfl,rfl,rfl⟩⟩,trivial⟩,.inl ⟨k-1,rfl,rfl⟩⟩
 have hlt:i<l.length:=by
  have:¬ (i:Int)=l.length:=by simpa using h
  omega
 refine U.skip ?_;try simp only[cQ]
 refine U.seq (U.seq ?_);refine .gW (by decide +kernel) fun K hK =>?_;simp only[Ar,aZ,Nat.reduceEqDiff,reduceIte]
 try simp only[VV,List.length_singleton,aZ,Nat.reduceEqDiff,reduceIte]
 rw[H9 (xs:=l++List.replicate k cn) (hA _)]
 try simp only[aZ,Nat.reduceEqDiff,reduceIte]
 rw[ea _ (by simp;omega) (by simp;omega)];refine .done (hK _ ?_);clear hK K;try simp only[cQ]
 have hgt:decide ((((l++List.replicate k cn).length-0:Nat):Int)<(l.length:Int)+((1:Nat):Int))=decide (k=0):=by
  by_cases hk:k=0 <;>simp[hk] <;>omega
 simp only[hgt];by_cases hk:k=0
 ·subst hk;refine U.gC ?_;simp only[av,aZ,Nat.reduceEqDiff,reduceIte];refine ⟨fun h =>?_,fun h =>?_⟩
  ·have htot0:((l++List.replicate 0 cn).map (enc (α:=ah))).length=l.length:=by simp
   refine .dI (by decide +kernel) fun K hK =>?_;simp only[As,aZ,Nat.reduceEqDiff,reduceIte]
   try simp only[gr,htot0,zz4,D8 (show i≤l.length by omega) hl0,kU,VO,aZ,Nat.reduceEqDiff,reduceIte]
   rw[ea ((l.length:Int)+((1:Nat):Int)) (by omega) (by omega),ea ((l.length:Int)+((1:Nat):Int)-i) (by omega) (by omega)];have hm:(l.length:Int)+((1:Nat):Int)-i=((l.length+1-i:Nat):Int):=by omega
   rw[hm];refine aX.Gc (esz:=8) cn rfl (xs:=l++List.replicate 0 cn) (hA _) (by simp;omega) (by omega) (by simp;omega) (hN _ 40 (by decide)) (by omega) (by simp only[maxLen];omega) fun q =>?_;obtain ⟨xs,hxs⟩:∃ xs,xs=l.take i++(List.replicate (l.length+1-i) cn++List.replicate q cn):=⟨_,rfl⟩
   have hxs':(l++List.replicate 0 cn).take i++(List.replicate (l.length+1-i) cn++List.replicate q cn)=xs:=by rw[hxs,List.take_append_of_le_length (by omega)]
   have hxl:xs.length=l.length+1+q:=by rw[hxs];simp;omega
   have hle:i+(l.length+1-i)=l.length+1:=by omega
   rw[hxs',hle]
   try simp only[aZ,Nat.reduceEqDiff,reduceIte]
   refine .done (hK _ ?_);clear hK K;have hxm:(xs.map (enc (α:=ah))).length=l.length+1+q:=by rw[Z2];exact hxl
   have hA2:∀ ts,(aw ts [(40,.box (.agg (xs.map (enc (α:=ah))))),(1000000,.box (.agg ((l++List.replicate 0 cn).map (enc (α:=ah)))))]).o 40=some (.box (.agg (xs.map enc))):=fun _=>rfl;refine .dI (by decide +kernel) fun K hK =>?_;simp only[Aj,aZ,Nat.reduceEqDiff,reduceIte]
   try simp only[gr,hxm,zz4,mb (show i≤l.length+1 by omega) (show l.length+1≤l.length+1+q by omega) (show i<l.length+1+q by omega),lU,aZ,Nat.reduceEqDiff,reduceIte]
   rw[Ef,nJ (xs:=xs) (c:=1) (hA2 _) (by omega) (by simp;omega)];obtain ⟨ys,hys⟩:∃ ys,ys=xs.take i++([g].take 1++xs.drop (i+1)):=⟨_,rfl⟩
   have hyl:ys.length=l.length+1+q:=by rw[hys];simp;omega
   rw[←hys]
   try simp only[aZ]
   refine .done (hK _ ?_);clear hK K;have hym:(ys.map (enc (α:=ah))).length=l.length+1+q:=by rw[Z2];exact hyl
   have hA3:∀ ts z,(aw ts [(40,.box (.agg (ys.map (enc (α:=ah))))),(40,z),(1000000,.box (.agg ((l++List.replicate 0 cn).map (enc (α:=ah)))))]).o 40=some (.box (.agg (ys.map enc))):=fun _ _=>rfl;have hA4:∀ ts z,(aw ts [(40,.box (.agg (ys.map (enc (α:=ah))))),(40,z),(1000000,.box (.agg ((l++List.replicate 0 cn).map (enc (α:=ah)))))]).o 1000000=some (.box (.agg ((l++List.replicate 0 cn).map enc))):=fun _ _=>rfl;refine .dI (by decide +kernel) fun K hK =>?_;simp only[Ak,aZ,Nat.reduceEqDiff,reduceIte];rw[ea ((i:Int)+((1:Nat):Int)) (by omega) (by omega)];have hi1:(i:Int)+((1:Nat):Int)=((i+1:Nat):Int):=by omega
   try simp only[gr,hym,htot0,hi1,zz4,Z9,mb (show i+1≤l.length+1 by omega) (show l.length+1≤l.length+1+q by omega) (show i+1<l.length+1+q by omega),mb (show i≤l.length by omega) (Z7 l.length) hlt,lU,aZ,Nat.reduceEqDiff,reduceIte]
   have hd1:l.length+1-(i+1)=l.length-i:=by omega
   rw[hd1,Eg (xs:=l++List.replicate 0 cn) (hA4 _ _) (by simp;omega),nJ (xs:=ys) (c:=l.length-i) (hA3 _ _) (by omega) (by simp)];rw[Vq l i q g hlt xs hxs ys hys]
   try simp only[aZ]
   refine .done (hK _ ?_);clear hK K;refine .dI (by decide +kernel) fun K hK =>?_;simp only[Al,aZ,Nat.reduceEqDiff,reduceIte];refine .done (hK _ ?_);clear hK K;refine U.ret ?_;simp only[cQ,jN];exact ⟨eO 40 (fU l i g) q++eO 1000000 l 0,[.view 40 [] 8 0 (l.length+1)],AM rfl (fun p=>fk p _) rfl (fun p=>fk p _),⟨⟨_,rfl,.inl ⟨rfl,rfl,rfl⟩⟩,trivial⟩,.inr ⟨40,q,.inr rfl,rfl,rfl⟩⟩
  ·simp at h
 ·refine U.gC ?_;simp only[av,aZ,Nat.reduceEqDiff,reduceIte];refine ⟨fun h =>?_,fun h =>?_⟩
  ·simp at h;omega
  refine U.skip ?_;try simp only[cQ]
  have hk1:1≤k:=by omega
  have hn1:(l.length:Int)+((1:Nat):Int)=((l.length+1:Nat):Int):=by omega
  refine .dI (by decide +kernel) fun K hK =>?_;simp only[Am,aZ,Nat.reduceEqDiff,reduceIte];rw[ea ((l.length:Int)+((1:Nat):Int)) (by omega) (by omega)]
  try simp only[gr,htot,hn1,zz4,D8 (show l.length+1≤l.length+k by omega) (show 0<l.length+k by omega),aZ,Nat.reduceEqDiff,reduceIte]
  refine .done (hK _ ?_);clear hK K;have hi1:(i:Int)+((1:Nat):Int)=((i+1:Nat):Int):=by omega
  have hd1:l.length+1-(i+1)=l.length-i:=by omega
  refine U.seq (U.seq ?_);refine .gW (by decide +kernel) fun K hK =>?_;simp only[An,aZ,Nat.reduceEqDiff,reduceIte];rw[ea ((i:Int)+((1:Nat):Int)) (by omega) (by omega)]
  try simp only[gr,htot,hi1,hd1,zz4,mb (show i+1≤l.length+1 by omega) (show l.length+1≤l.length+k by omega) (show i+1<l.length+k by omega),Wp,aZ,Nat.reduceEqDiff,reduceIte]
  refine .ext (.bool false) rfl (Yv (tS:=23) (tR:=4) (e:=50) Tryz.func143 (by kernel_rfl) (by kernel_rfl) (by kernel_rfl) (by kernel_rfl) (by kernel_rfl) (by kernel_rfl) (hA _) rfl ?_ (by decide) (Ae (by intro h;have:=congrArg List.length h;rw[Z1,List.length_replicate,zz8] at this;omega) rfl)) ?_
  ·show I.sizes ((l++List.replicate k cn).map enc)≠0
   rw[I.fZ (sz:=8) _ (fun e he=>by obtain ⟨x,_,rfl⟩:=zz3.1 he;rw[lM];rfl)];rw[htot];omega
  try simp only[aZ,Nat.reduceEqDiff,reduceIte]
  refine .done (hK _ ?_);clear hK K;try simp only[cQ]
  refine U.gC ?_;simp only[av,aZ,Nat.reduceEqDiff,reduceIte];refine ⟨fun h =>?_,fun h =>?_⟩
  case neg.refine_2.refine_2.refine_2=>cases h
  have hd2:l.length+1-i=l.length+1-i:=rfl;obtain ⟨xs,hxs⟩:∃ xs,xs=l++List.replicate k cn:=⟨_,rfl⟩
  have hxl:xs.length=l.length+k:=by rw[hxs];simp
  have hxm:(xs.map (enc (α:=ah))).length=l.length+k:=by rw[Z2];exact hxl
  rw[←hxs];have hB:∀ ts,(aw ts [(1000000,.box (.agg (xs.map (enc (α:=ah)))))]).o 1000000=some (.box (.agg (xs.map enc))):=fun _=>rfl;refine .dI (by decide +kernel) fun K hK =>?_;simp only[Ao,aZ,Nat.reduceEqDiff,reduceIte];rw[ea ((i:Int)+((1:Nat):Int)) (by omega) (by omega)]
  try simp only[gr,hxm,hi1,hd1,zz4,Z9,mb (show i+1≤l.length+1 by omega) (show l.length+1≤l.length+k by omega) (show i+1<l.length+k by omega),mb (show i≤l.length+1 by omega) (show l.length+1≤l.length+k by omega) (show i<l.length+k by omega),lU,aZ,Nat.reduceEqDiff,reduceIte]
  rw[Eg (xs:=xs) (hB _) (by omega),nJ (xs:=xs) (c:=l.length-i) (hB _) (by omega) (by simp;omega)];obtain ⟨ys,hys⟩:∃ ys,ys=xs.take (i+1)++(((xs.drop i).take (l.length+1-i)).take (l.length-i)++xs.drop (i+1+(l.length-i))):=⟨_,rfl⟩
  have hyl:ys.length=l.length+k:=by rw[hys];simp;omega
  have hym:(ys.map (enc (α:=ah))).length=l.length+k:=by rw[Z2];exact hyl
  rw[←hys]
  try simp only[aZ]
  refine .done (hK _ ?_);clear hK K;have hC:∀ ts z,(aw ts [(1000000,.box (.agg (ys.map (enc (α:=ah))))),(1000000,z)]).o 1000000=some (.box (.agg (ys.map enc))):=fun _ _=>rfl;refine .dI (by decide +kernel) fun K hK =>?_;simp only[Ap,aZ,Nat.reduceEqDiff,reduceIte]
  try simp only[gr,hym,zz4,mb (show i≤l.length+1 by omega) (show l.length+1≤l.length+k by omega) (show i<l.length+k by omega),lU,aZ,Nat.reduceEqDiff,reduceIte]
  rw[Ef,nJ (xs:=ys) (c:=1) (hC _ _) (by omega) (by simp;omega)];rw[Vp l i k g hlt hk1 xs hxs ys hys]
  try simp only[aZ]
  refine .done (hK _ ?_);clear hK K;refine .dI (by decide +kernel) fun K hK =>?_;simp only[Aq,aZ,Nat.reduceEqDiff,reduceIte];refine .done (hK _ ?_);clear hK K;refine U.ret ?_;simp only[cQ,jN];exact ⟨eO 1000000 (fU l i g) (k-1),[.view 1000000 [] 8 0 (l.length+1)],nT rfl (fun p=>fk p _),⟨⟨_,rfl,.inl ⟨rfl,rfl,rfl⟩⟩,trivial⟩,.inl ⟨k-1,rfl,rfl⟩⟩
def eA(a b:Int):Int:=if a<b then -1 else if a>b then 1 else 0
def gf(a b:Item):Int:=if eA a.aO b.aO≠0 then eA a.aO b.aO else eA a.no b.no
def eW(a b:Item):Bool:=decide (a.aO<b.aO∨(a.aO=b.aO∧a.no<b.no))
theorem zi(a b:Int):(a<b∧eA a b=-1)∨(a=b∧eA a b=0)∨(b<a∧eA a b=1):=by
 simp only[eA]
 (repeat' split) <;>omega
theorem zj(a b:Item):(eW a b=true∧gf a b=-1)∨(a=b∧gf a b=0)∨(eW b a=true∧gf a b=1):=by
 obtain ⟨m,n⟩:=a;obtain ⟨m',n'⟩:=b;simp only[gf,eW,decide_eq_true_eq,Item.mk.injEq];rcases zi m m' with ⟨h,e⟩ | ⟨h,e⟩ | ⟨h,e⟩ <;>rw[e]
 ·simp;omega
 ·rcases zi n n' with ⟨h2,e2⟩ | ⟨h2,e2⟩ | ⟨h2,e2⟩ <;>rw[e2] <;>simp <;>omega
 ·simp;omega
theorem oW(a:Item):eW a a=false:=by simp only[eW,decide_eq_false_iff_not];omega
theorem tQ{a b c:Item}(h:eW a b=true)(k:eW b c=true):eW a c=true:=by
 simp only[eW,decide_eq_true_eq] at *;omega
theorem zk(a b:Item):decide (gf a b<0)=eW a b:=by
 rcases zj a b with ⟨h,e⟩ | ⟨rfl,e⟩ | ⟨h,e⟩
 ·rw[e,h];rfl
 ·rw[e,oW];rfl
 ·rw[e];cases k:eW a b
  ·rfl
  ·have:=tQ k h;rw[oW] at this;cases this
theorem Jt(a b:Item):(gf a b==0)=decide (a=b):=by
 rcases zj a b with ⟨h,e⟩ | ⟨rfl,e⟩ | ⟨h,e⟩
 ·rw[e,decide_eq_false (fun k=>by rw[k,oW] at h;cases h)];rfl
 ·rw[e];simp
 ·rw[e,decide_eq_false (fun k=>by rw[k,oW] at h;cases h)];rfl
theorem w6(n:Int):aR Tryz.prog 175 [enc n] (enc false):=by
 refine aR.bK Tryz.func175 Ho IC JW (t8 rfl) (fun hwf W0 bB E1 =>?_);simp only[c175,CC,bA];clear hwf;have q:(n != n)=false:=by simp
 have R:=y6 @q aC
 repeat' ((first |refine U.aG (by decide +kernel) rfl fun K hK =>?_|(refine .aE [0,2] hK ?_;clear hK K)|(with_reducible refine .done (hK _ ?_);clear hK K)|refine U.of rfl ?_|(with_reducible refine av.aF (fun h =>?_) (fun h =>?_) <;>try simp only[h])) <;>try simp only[aH,R,simprocAttr])
 all_goals clear R
 all_goals rfl
theorem w0(a b:Int):aR Tryz.prog 161 [enc a,enc b] (enc (eA a b)):=by
 refine aR.bK Tryz.func161 Hm Iz JT (t8 rfl) (fun hwf W0 bB E1 =>?_);simp only[yj,Cz,bA,Z4];clear hwf;have f1:=w6 a;have f2:=w6 b;simp only[eA];cases q1:decide (a<b)
 ·rw[if_neg (of_decide_eq_false q1)];cases q2:decide (a>b)
  ·rw[if_neg (of_decide_eq_false q2)];have R:=y6 @q1 (y6 @q2 aC)
   repeat' ((first |refine U.aG (by decide +kernel) rfl fun K hK =>?_|refine .flat _ (f1) rfl ?_|refine .flat _ (f2) rfl ?_|(refine .aE [0,1,4,5,6,11,12,13,16,19] hK ?_;clear hK K)|(with_reducible refine .done (hK _ ?_);clear hK K)|refine U.of rfl ?_|(with_reducible refine av.aF (fun h =>?_) (fun h =>?_) <;>try simp only[h])) <;>try simp only[aH,R,simprocAttr])
   all_goals clear R
   all_goals rfl
  ·rw[if_pos (of_decide_eq_true q2)];have R:=y6 @q1 (y6 @q2 aC)
   repeat' ((first |refine U.aG (by decide +kernel) rfl fun K hK =>?_|refine .flat _ (f1) rfl ?_|refine .flat _ (f2) rfl ?_|(refine .aE [0,1,4,5,6,11,12,13,16,19] hK ?_;clear hK K)|(with_reducible refine .done (hK _ ?_);clear hK K)|refine U.of rfl ?_|(with_reducible refine av.aF (fun h =>?_) (fun h =>?_) <;>try simp only[h])) <;>try simp only[aH,R,simprocAttr])
   all_goals clear R
   all_goals rfl
 ·rw[if_pos (of_decide_eq_true q1)];have R:=y6 @q1 aC
  repeat' ((first |refine U.aG (by decide +kernel) rfl fun K hK =>?_|refine .flat _ (f1) rfl ?_|refine .flat _ (f2) rfl ?_|(refine .aE [0,1,4,5,6,11,12,13,16,19] hK ?_;clear hK K)|(with_reducible refine .done (hK _ ?_);clear hK K)|refine U.of rfl ?_|(with_reducible refine av.aF (fun h =>?_) (fun h =>?_) <;>try simp only[h])) <;>try simp only[aH,R,simprocAttr])
  all_goals clear R
  all_goals rfl
theorem Fb(a b:Int):aR Tryz.prog 160 [enc [a,b]] (enc (if a≠0 then a else b)):=by
 refine aR.bK Tryz.func160 Hl Iy JS (t8 rfl) (fun hwf W0 bB E1 =>?_);simp only[yi,Cy,bA];clear hwf;have h0:∀ A,jf A 1 ((0:Nat):Int) (enc [a,b])=some (.ref (enc a)):=fun A=>fi (A:=A) (l:=[a,b]) (k:=0) 1 (by simp) rfl;have h1:∀ A,jf A 1 ((1:Nat):Int) (enc [a,b])=some (.ref (enc b)):=fun A=>fi (A:=A) (l:=[a,b]) (k:=1) 1 (by simp) rfl;have hl:([a,b]:List Int).length=2:=rfl;obtain ⟨l,hll⟩:∃ l,l=[a,b]:=⟨_,rfl⟩
 rw[←hll] at h0 h1 hl ⊢;have R:=aC
 repeat' ((first |refine U.aG (by decide +kernel) rfl fun K hK =>?_|(refine .aE [0,2,3,5,6,7,8,9,14] hK ?_;clear hK K)|(with_reducible refine .done (hK _ ?_);clear hK K)|refine U.of rfl ?_|(with_reducible refine av.aF (fun h =>?_) (fun h =>?_) <;>try simp only[h])) <;>try simp only[aH,R,simprocAttr])
 all_goals clear R
 refine U.loop (fun i:Nat=>aw [(0,enc l),(3,.int .i64 0),(6,enc l),(7,.int .i64 (l.length:Int)),(8,.int .i64 (i:Int))] []) (fun i=>i≤2∧(0<i→a=0)∧(1<i→b=0)) (fun i=>2-i) 0 ⟨by omega,by omega,by omega⟩ ?_ ?_
 ·refine bC.cO ?_ ?_ ?_ ?_ <;>simp[cm,cv,ct,bW,cj,I.only,bI]
  all_goals rfl
 rintro i ⟨hi,k0,k1⟩;have hw:=eP (i:=i) (by omega);by_cases e0:i=0
 ·have hc:=fj (show i<l.length by omega);have he:∀ A,jf A 1 (i:Int) (enc l)=some (.ref (enc a)):=fun A=>by rw[e0];exact h0 A
  cases q:(a != 0)
  ·have R:=y6 @hc (y6 @he (y6 @q (y6 @hw aC)))
   repeat' ((first |refine U.aG (by decide +kernel) rfl fun K hK =>?_|(refine .aE [0,2,3,5,6,7,8,9,14] hK ?_;clear hK K)|(with_reducible refine .done (hK _ ?_);clear hK K)|refine U.of rfl ?_|(with_reducible refine av.aF (fun h =>?_) (fun h =>?_) <;>try simp only[h])) <;>try simp only[aH,R,simprocAttr])
   all_goals clear R
   refine ⟨i+1,⟨by omega,fun _=>by simpa using q,by omega⟩,by omega,?_⟩;refine bC.cO ?_ ?_ ?_ ?_ <;>simp[cm,cv,ct,bW,cj,I.only,bI]
   all_goals rfl
  ·have ha:a≠0:=by simpa using q
   rw[if_pos ha];have R:=y6 @hc (y6 @he (y6 @q (y6 @hw aC)))
   repeat' ((first |refine U.aG (by decide +kernel) rfl fun K hK =>?_|(refine .aE [0,2,3,5,6,7,8,9,14] hK ?_;clear hK K)|(with_reducible refine .done (hK _ ?_);clear hK K)|refine U.of rfl ?_|(with_reducible refine av.aF (fun h =>?_) (fun h =>?_) <;>try simp only[h])) <;>try simp only[aH,R,simprocAttr])
   all_goals clear R
   all_goals rfl
 have ha:¬ a≠0:=fun h=>h (k0 (by omega));by_cases e1:i=1
 ·have hc:=fj (show i<l.length by omega);have he:∀ A,jf A 1 (i:Int) (enc l)=some (.ref (enc b)):=fun A=>by rw[e1];exact h1 A
  cases q:(b != 0)
  ·have R:=y6 @hc (y6 @he (y6 @q (y6 @hw aC)))
   repeat' ((first |refine U.aG (by decide +kernel) rfl fun K hK =>?_|(refine .aE [0,2,3,5,6,7,8,9,14] hK ?_;clear hK K)|(with_reducible refine .done (hK _ ?_);clear hK K)|refine U.of rfl ?_|(with_reducible refine av.aF (fun h =>?_) (fun h =>?_) <;>try simp only[h])) <;>try simp only[aH,R,simprocAttr])
   all_goals clear R
   refine ⟨i+1,⟨by omega,fun _=>k0 (by omega),fun _=>by simpa using q⟩,by omega,?_⟩;refine bC.cO ?_ ?_ ?_ ?_ <;>simp[cm,cv,ct,bW,cj,I.only,bI]
   all_goals rfl
  ·rw[if_neg ha];have R:=y6 @hc (y6 @he (y6 @q (y6 @hw aC)))
   repeat' ((first |refine U.aG (by decide +kernel) rfl fun K hK =>?_|(refine .aE [0,2,3,5,6,7,8,9,14] hK ?_;clear hK K)|(with_reducible refine .done (hK _ ?_);clear hK K)|refine U.of rfl ?_|(with_reducible refine av.aF (fun h =>?_) (fun h =>?_) <;>try simp only[h])) <;>try simp only[aH,R,simprocAttr])
   all_goals clear R
   all_goals rfl
 have hc:=fH (show ¬ i<l.length by omega);rw[if_neg ha,k1 (by omega)];have R:=y6 @hc aC
 repeat' ((first |refine U.aG (by decide +kernel) rfl fun K hK =>?_|(refine .aE [0,2,3,5,6,7,8,9,14] hK ?_;clear hK K)|(with_reducible refine .done (hK _ ?_);clear hK K)|refine U.of rfl ?_|(with_reducible refine av.aF (fun h =>?_) (fun h =>?_) <;>try simp only[h])) <;>try simp only[aH,R,simprocAttr])
 all_goals clear R
 all_goals rfl
theorem E6(a b:Item):aR Tryz.prog 140 [enc a,enc b] (enc (gf a b)):=by
 refine aR.bK Tryz.func140 He It JO (t8 rfl) (fun hwf W0 bB E1 =>?_);simp only[yd,Cu,bA,Z4];clear hwf;have f1:=w0 a.aO b.aO;have f2:=w0 a.no b.no;have f3:=Fb (eA a.aO b.aO) (eA a.no b.no);have hbs:gz 1 (some [.int .i64 (eA a.aO b.aO),.int .i64 (eA a.no b.no)])=some (enc [eA a.aO b.aO,eA a.no b.no]):=xM (ys:=[eA a.aO b.aO,eA a.no b.no]) 1 rfl;have R:=y6 @hbs aC
 repeat' ((first |refine U.aG (by decide +kernel) rfl fun K hK =>?_|refine .flat _ (f1) rfl ?_|refine .flat _ (f2) rfl ?_|refine .flat _ (f3) rfl ?_|(refine .aE [0,1,2,3,4] hK ?_;clear hK K)|(with_reducible refine .done (hK _ ?_);clear hK K)|refine U.of rfl ?_|(with_reducible refine av.aF (fun h =>?_) (fun h =>?_) <;>try simp only[h])) <;>try simp only[aH,R,simprocAttr])
 all_goals clear R
 all_goals rfl
theorem wX(x:ah)(a:Item):aR Tryz.prog 139 [enc x,enc a] (enc (gf x.bg a)):=by
 refine aR.bK Tryz.func139 Hc Ir JM (t8 rfl) (fun hwf W0 bB E1 =>?_);simp only[yb,Cs,bA,Z4];clear hwf;have R:=aC
 repeat' ((first |refine U.aG (by decide +kernel) rfl fun K hK =>?_|refine .flat _ (E6 x.bg a) rfl ?_|(refine .aE [0,1,2,3,4] hK ?_;clear hK K)|(with_reducible refine .done (hK _ ?_);clear hK K)|refine U.of rfl ?_|(with_reducible refine av.aF (fun h =>?_) (fun h =>?_) <;>try simp only[h])) <;>try simp only[aH,R,simprocAttr])
 all_goals clear R
 all_goals rfl
theorem Yr(x y:Nat)(h:x+y<9223372036854775807):IntKind.i64.wrap ((x:Int)+(y:Int))=((x+y:Nat):Int):=by rw[ea _ (by omega) (by omega)];omega
theorem Ys{n:Nat}(h:n≤9223372036854775807):IntKind.i64.wrap (n:Int)=(n:Int):=ea _ (by omega) (by omega)
theorem vm(x:Nat):Int.fdiv (x:Int) (2^min (Int.toNat 1) IntKind.u64.bits)=((x / 2:Nat):Int):=by
 have:min (Int.toNat 1) IntKind.u64.bits=1:=rfl;rw[this]
 show Int.fdiv (x:Int) 2=_
 rw[Int.fdiv_eq_ediv_of_nonneg _ (by decide)];rfl
theorem Bq(x:Nat):Int.fdiv (x:Int) (2^min 1 IntKind.u64.bits)=((x / 2:Nat):Int):=vm x
theorem Vy{x:Nat}(h:x<9223372036854775807):IntKind.u64.wrap (x:Int)=(x:Int):=by
 simp only[IntKind.wrap,IntKind.bits,IntKind.signed];simp;omega
theorem Bp:((0:Int)≤1)=True:=by simp
abbrev lH(l:List ah):Prop:=l.Pairwise fun a b=>dk a b=true
def fb(l:List ah)(a:Item):Nat:=l.findIdx fun x => !eW x.bg a
def iM(l:List ah)(a:Item):Bool:=l.any fun x=>decide (x.bg=a)
theorem WS(l:List ah)(a:Item):fb l a≤l.length:=List.findIdx_le_length
theorem wB{l:List ah}(h:lH l){i j:Nat}(hij:i<j)(hj:j<l.length):eW (l[i]'(by omega)).bg l[j].bg=true:=List.pairwise_iff_getElem.1 h i j (by omega) hj hij
theorem B5{l:List ah}{a:Item}{i:Nat}(hi:i≤l.length)(h1:∀ k (h:k<l.length),k<i→eW l[k].bg a=true)(h2:∀ h:i<l.length,eW l[i].bg a=false):fb l a=i:=by
 simp only[fb];by_cases hlt:i<l.length
 ·refine (List.findIdx_eq hlt).2 ⟨by rw[h2 hlt];rfl,fun j hj =>?_⟩;rw[h1 j (by omega) hj];rfl
 ·have e:i=l.length:=by omega
  rw[e];refine List.findIdx_eq_length.2 fun x hx =>?_;obtain ⟨k,hk,rfl⟩:=List.getElem_of_mem hx;rw[h1 k hk (by omega)];rfl
theorem u2{l:List ah}(hs:lH l)(a:Item):iM l a=true↔∃ h:fb l a<l.length,(l[fb l a]).bg=a:=by
 constructor
 ·intro h;simp only[iM,List.any_eq_true,decide_eq_true_eq] at h;obtain ⟨x,hx,rfl⟩:=h;obtain ⟨k,hk,rfl⟩:=List.getElem_of_mem hx;have h1:fb l l[k].bg=k:=B5 (by omega) (fun j hj hjk=>wB hs hjk hk) (fun _=>oW _);exact ⟨by omega,by simp only[h1]⟩
 ·rintro ⟨h1,h2⟩;simp only[iM,List.any_eq_true,decide_eq_true_eq];exact ⟨_,List.getElem_mem h1,h2⟩
theorem E0(l:List ah)(a:Item)(hs:lH l)(hl:l.length≤1000):aR Tryz.prog 138 [enc l,enc a,.func 139 []] (.tuple [enc (fb l a:Int),enc (iM l a)]):=by
 refine aR.bK Tryz.func138 Hb Iq JL (t8 rfl) (fun hwf W0 bB E1 =>?_);simp only[ya,Cr,bA,Z4,Nat.reduceAdd];clear hwf;have R:=aC
 repeat' ((first |(with_reducible refine .guard (fun hb =>?_) (fun hb =>?_) <;>try simp only[hb])|refine U.aG (by decide +kernel) rfl fun K hK =>?_|(refine .aE [0,1,2,4,6,7,8,9,10,11,17,31] hK ?_;clear hK K)|(with_reducible refine .done (hK _ ?_);clear hK K)|refine U.of rfl ?_|(with_reducible refine av.aF (fun h =>?_) (fun h =>?_) <;>try simp only[h])) <;>try simp only[aH,R,simprocAttr])
 all_goals clear R
 refine U.loop (fun s:Nat×Nat=>aw [(0,enc l),(2,.func 139 []),(4,.ptr 4 []),(8,.int .i64 l.length),(9,.int .i64 s.1),(10,.int .i64 s.2)] [(4,.box (enc a))]) (fun s=>s.1≤s.2∧s.2≤l.length∧(∀ k (h:k<l.length),k<s.1→eW l[k].bg a=true)∧∀ k (h:k<l.length),s.2≤k→eW l[k].bg a=false) (fun s=>s.2-s.1) (0,l.length) ⟨zy9 _,Z7 _,fun k _ hk=>by omega,fun k h1 h2=>by simp only at h2;omega⟩ ?_ ?_
 ·refine bC.cO ?_ ?_ ?_ ?_ <;>simp[cm,cv,ct,bW,aI,cj,dX,I.only,I.cJ,ai.only,bI]
  all_goals rfl
 rintro ⟨i,j⟩ ⟨h1,h2,h3,h4⟩;simp only at h1 h2 h3 h4 ⊢;by_cases hlt:i<j
 ·have hc:=fj hlt;have w1:=Yr i j (by omega);have w2:=Vy (x:=i+j) (by omega);obtain ⟨h,hh⟩:∃ h,h=(i+j) / 2:=⟨_,rfl⟩
  have w5:=Ys (n:=h) (by omega);have hhl:h<l.length:=by omega
  have he:=fun A=>fi (A:=A) 8 hhl rfl;have hn:=zk l[h].bg a;have hw:=eP (i:=h) (by omega);have f139:=wX l[h] a;rcases hb:eW l[h].bg a
  ·rw[hb] at hn;have hlo:∀ k (h':k<l.length),h≤k→eW l[k].bg a=false:=fun k hkl hk=>by
    cases hbk:eW l[k].bg a with
    |false=>rfl
    |true =>
     by_cases e:k=h
     ·subst e;rw[hb] at hbk;cases hbk
     ·have:=tQ (wB hs (show h<k by omega) hkl) hbk;rw[this] at hb;cases hb
   clear hb;generalize l[h]=r at *;have R:=y6 @hc (y6 @w1 (y6 @w2 (y6 @w5 (y6 @he (y6 @hn (y6 @hw (y6 @Bq (y6 @vm (y6 @Bp (y6 @j4 aC))))))))))
   repeat' ((first |(with_reducible refine .guard (fun hb =>?_) (fun hb =>?_) <;>try simp only[hb])|refine U.aG (by decide +kernel) rfl fun K hK =>?_|refine .flat _ (f139) rfl ?_|(refine .aE [0,1,2,4,6,7,8,9,10,11,17,31] hK ?_;clear hK K)|(with_reducible refine .done (hK _ ?_);clear hK K)|refine U.of rfl ?_|(with_reducible refine av.aF (fun h =>?_) (fun h =>?_) <;>try simp only[h])) <;>try simp only[aH,R,←hh,Y3,simprocAttr])
   all_goals clear R
   refine ⟨(i,h),⟨by simp only;omega,by simp only;omega,h3,hlo⟩,by simp only;omega,?_⟩;clear hlo;refine bC.cO ?_ ?_ ?_ ?_ <;>simp[cm,cv,ct,bW,aI,cj,dX,I.only,I.cJ,ai.only,bI]
   all_goals rfl
  ·rw[hb] at hn;have hhi:∀ k (h':k<l.length),k<h+1→eW l[k].bg a=true:=fun k hkl hk=>by
    by_cases e:k=h
    ·subst e;exact hb
    ·cases hbk:eW l[k].bg a with
     |true=>rfl
     |false =>
      have:=tQ (wB hs (show k<h by omega) hhl) hb;rw[this] at hbk;cases hbk
   clear hb;generalize l[h]=r at *;have R:=y6 @hc (y6 @w1 (y6 @w2 (y6 @w5 (y6 @he (y6 @hn (y6 @hw (y6 @Bq (y6 @vm (y6 @Bp (y6 @j4 aC))))))))))
   repeat' ((first |(with_reducible refine .guard (fun hb =>?_) (fun hb =>?_) <;>try simp only[hb])|refine U.aG (by decide +kernel) rfl fun K hK =>?_|refine .flat _ (f139) rfl ?_|(refine .aE [0,1,2,4,6,7,8,9,10,11,17,31] hK ?_;clear hK K)|(with_reducible refine .done (hK _ ?_);clear hK K)|refine U.of rfl ?_|(with_reducible refine av.aF (fun h =>?_) (fun h =>?_) <;>try simp only[h])) <;>try simp only[aH,R,←hh,Y3,simprocAttr])
   all_goals clear R
   refine ⟨(h+1,j),⟨by simp only;omega,h2,hhi,h4⟩,by simp only;omega,?_⟩;clear hhi;refine bC.cO ?_ ?_ ?_ ?_ <;>simp[cm,cv,ct,bW,aI,cj,dX,I.only,I.cJ,ai.only,bI]
   all_goals rfl
 ·have hij:i=j:=by omega
  subst hij;have hc:=fH hlt;have hp:fb l a=i:=B5 h2 h3 fun h=>h4 i h (Z7 _);have hh:=u2 hs a;rw[hp];by_cases hil:i<l.length
  ·have hc2:=fj hil;have he:=fun A=>fi (A:=A) 8 hil rfl;have hz:=Jt l[i].bg a;have hhz:iM l a=decide (l[i].bg=a):=by
    rw[Bool.eq_iff_iff,hh,decide_eq_true_eq];constructor
    ·rintro ⟨_,e⟩;simp only[hp] at e;exact e
    ·intro e;exact ⟨by omega,by simp only[hp];exact e⟩
   have f139:=wX l[i] a;rw[hhz];clear hhz h3 h4;generalize l[i]=r at *;have R:=y6 @hc (y6 @hc2 (y6 @he (y6 @hz (y6 @j4 aC))))
   repeat' ((first |(with_reducible refine .guard (fun hb =>?_) (fun hb =>?_) <;>try simp only[hb])|refine U.aG (by decide +kernel) rfl fun K hK =>?_|refine .flat _ (f139) rfl ?_|(refine .aE [0,1,2,4,6,7,8,9,10,11,17,31] hK ?_;clear hK K)|(with_reducible refine .done (hK _ ?_);clear hK K)|refine U.of rfl ?_|(with_reducible refine av.aF (fun h =>?_) (fun h =>?_) <;>try simp only[h])) <;>try simp only[aH,R,Y3,simprocAttr])
   all_goals clear R
   all_goals rfl
  ·have hc2:=fH hil;have hhz:iM l a=false:=by
    cases q:iM l a
    ·rfl
    ·obtain ⟨h,_⟩:=hh.1 q;omega
   rw[hhz];have R:=y6 @hc (y6 @hc2 aC)
   repeat' ((first |(with_reducible refine .guard (fun hb =>?_) (fun hb =>?_) <;>try simp only[hb])|refine U.aG (by decide +kernel) rfl fun K hK =>?_|(refine .aE [0,1,2,4,6,7,8,9,10,11,17,31] hK ?_;clear hK K)|(with_reducible refine .done (hK _ ?_);clear hK K)|refine U.of rfl ?_|(with_reducible refine av.aF (fun h =>?_) (fun h =>?_) <;>try simp only[h])) <;>try simp only[aH,R,simprocAttr])
   all_goals clear R
   all_goals rfl
theorem Fz(l:List ah)(a:Item)(hs:lH l)(hl:l.length≤1000):aR Tryz.prog 94 [enc (⟨l⟩:iD),enc a] (.tuple [enc (fb l a:Int),enc (iM l a)]):=by
 have hF:=E0 l a hs hl;refine aR.bK Tryz.func94 HZ Jd Kx (t8 rfl) (fun hwf W0 bB E1 =>?_);simp only[yT,Db,bA,Z4];clear hwf;have R:=aC
 repeat' ((first |refine U.aG (by decide +kernel) rfl fun K hK =>?_|refine .lead _ (hF) ?_|(refine .aE [0,1,2,3,4,5] hK ?_;clear hK K)|(with_reducible refine .done (hK _ ?_);clear hK K)|refine U.of rfl ?_|(with_reducible refine av.aF (fun h =>?_) (fun h =>?_) <;>try simp only[h])) <;>try simp only[aH,R,simprocAttr])
 all_goals clear R
 all_goals rfl
def kZ(x:ah):List ah→Nat→Int
 | [],_=>-1
 |r::l,i=>if x=r then (i:Int) else kZ x l (i+1)
theorem AQ(x:ah):∀ (l:List ah) (i:Nat),decide (kZ x l i≥0)=decide (x∈l)
 | [],i=>by simp[kZ]
 |r::l,i=>by
  rw[kZ];by_cases h:x=r
  ·rw[if_pos h];subst h;simp
  ·rw[if_neg h,AQ x l (i+1)];simp[h]
theorem Fa(l:List ah)(x:ah)(hl:l.length≤4000000000000):aR Tryz.prog 159 [enc l,enc x] (enc (kZ x l 0)):=by
 refine aR.bK Tryz.func159 Hk Iw JR (t8 rfl) (fun hwf W0 bB E1 =>?_);simp only[yh,Cx,bA,Z4];clear hwf;have R:=aC
 repeat' ((first |refine U.aG (by decide +kernel) rfl fun K hK =>?_|(refine .aE [0,1,3,4,5,7,8,9,16] hK ?_;clear hK K)|(with_reducible refine .done (hK _ ?_);clear hK K)|refine U.of rfl ?_|(with_reducible refine av.aF (fun h =>?_) (fun h =>?_) <;>try simp only[h])) <;>try simp only[aH,R,simprocAttr])
 all_goals clear R
 refine U.loop (fun i:Nat=>aw [(0,enc l),(3,.ptr 3 []),(7,.int .i64 l.length),(8,.int .i64 i)] [(3,.box (enc x))]) (fun i=>i≤l.length∧kZ x l 0=kZ x (l.drop i) i) (fun i=>l.length-i) 0 ⟨zy9 _,by simp⟩ ?_ ?_
 ·refine bC.cO ?_ ?_ ?_ ?_ <;>simp[cm,cv,ct,bW,aI,cj,dX,I.only,ai.only,bI]
  all_goals rfl
 rintro i ⟨hi,heq⟩;rw[heq];by_cases hlt:i<l.length
 ·have hlc:=fj hlt;have he:=fun A=>fi (A:=A) 8 hlt rfl;have hw:=eP (i:=i) (by omega);have hd:=List.drop_eq_getElem_cons hlt;rw[hd,kZ] at heq ⊢;generalize l[i]=r at *;by_cases q:x=r
  ·rw[if_pos q];have q1:decide (x=r)=true:=decide_eq_true q;have R:=y6 @hlc (y6 @he (y6 @hw (y6 @q1 aC)))
   repeat' ((first |refine U.aG (by decide +kernel) rfl fun K hK =>?_|(refine .aE [0,1,3,4,5,7,8,9,16] hK ?_;clear hK K)|(with_reducible refine .done (hK _ ?_);clear hK K)|refine U.of rfl ?_|(with_reducible refine av.aF (fun h =>?_) (fun h =>?_) <;>try simp only[h])) <;>try simp only[aH,R,simprocAttr])
   all_goals clear R
   all_goals rfl
  ·rw[if_neg q] at heq ⊢;have q1:decide (x=r)=false:=decide_eq_false q;have R:=y6 @hlc (y6 @he (y6 @hw (y6 @q1 aC)))
   repeat' ((first |refine U.aG (by decide +kernel) rfl fun K hK =>?_|(refine .aE [0,1,3,4,5,7,8,9,16] hK ?_;clear hK K)|(with_reducible refine .done (hK _ ?_);clear hK K)|refine U.of rfl ?_|(with_reducible refine av.aF (fun h =>?_) (fun h =>?_) <;>try simp only[h])) <;>try simp only[aH,R,simprocAttr])
   all_goals clear R
   refine ⟨i+1,⟨by omega,rfl⟩,by omega,?_⟩;clear hd heq;refine bC.cO ?_ ?_ ?_ ?_ <;>simp[cm,cv,ct,bW,aI,cj,dX,I.only,ai.only,bI]
   all_goals rfl
 ·have hlc:=fH hlt;rw[List.drop_eq_nil_of_le (by omega),kZ];have R:=y6 @hlc aC
  repeat' ((first |refine U.aG (by decide +kernel) rfl fun K hK =>?_|(refine .aE [0,1,3,4,5,7,8,9,16] hK ?_;clear hK K)|(with_reducible refine .done (hK _ ?_);clear hK K)|refine U.of rfl ?_|(with_reducible refine av.aF (fun h =>?_) (fun h =>?_) <;>try simp only[h])) <;>try simp only[aH,R,simprocAttr])
  all_goals clear R
  all_goals rfl
theorem EY(l:List ah)(x:ah)(hl:l.length≤4000000000000):aR Tryz.prog 136 [enc l,enc x] (enc (decide (x∈l))):=by
 refine aR.bK Tryz.func136 G9 Io JJ (t8 rfl) (fun hwf W0 bB E1 =>?_);simp only[x8,Cp,bA,Z4];clear hwf;have f:=Fa l x hl;have h:=AQ x l 0;have R:=y6 @h aC
 repeat' ((first |refine U.aG (by decide +kernel) rfl fun K hK =>?_|refine .flat _ (f) rfl ?_|(refine .aE [0,1,3,4] hK ?_;clear hK K)|(with_reducible refine .done (hK _ ?_);clear hK K)|refine U.of rfl ?_|(with_reducible refine av.aF (fun h =>?_) (fun h =>?_) <;>try simp only[h])) <;>try simp only[aH,R,simprocAttr])
 all_goals clear R
 all_goals rfl
def gm(l:List ah):Item:=match l.getLast? with
 |none=>⟨-1,0⟩
 |some a=>a.bg
theorem Yd(l:List ah)(r:ah):ib l r=(decide (r.bg=⟨(gm l).aO,(gm l).no+1⟩)||(!decide (r.aO≤(gm l).aO) && !(r.no != 0))):=by
 have e:∀ p:Item,decide ((r.aO=p.aO∧r.no=p.no+1)∨(p.aO<r.aO∧r.no=0))=(decide (r.bg=⟨p.aO,p.no+1⟩)||(!decide (r.aO≤p.aO) && !(r.no != 0))):=fun p=>by
  rw[Bool.eq_iff_iff];simp[ah.bg]
 rcases h:l.getLast? with _ | a
 ·have h1:ib l r=decide ((r.aO=-1∧r.no=1)∨(-1<r.aO∧r.no=0)):=by rw[ib,h]
  have h2:gm l=⟨-1,0⟩:=by rw[gm,h]
  rw[h1,h2];exact e ⟨-1,0⟩
 ·have h1:ib l r=decide ((r.aO=a.aO∧r.no=a.no+1)∨(a.aO<r.aO∧r.no=0)):=by rw[ib,h]
  have h2:gm l=a.bg:=by rw[gm,h]
  rw[h1,h2];exact e a.bg
def kQ(l:List ah):Bool:=eR (fun out r=>bd r&&ib out r) [] l&&decide (l.length≤60)
theorem FV{aV:List ah→ah→Bool}{l:List ah}{i:Nat}(h:i<l.length):eR aV (l.take i) (l.drop i)=(aV (l.take i) l[i]&&eR aV (l.take (i+1)) (l.drop (i+1))):=by
 rw[List.drop_eq_getElem_cons h,eR,←jr h]
theorem zF:I.agg [enc (⟨0,0⟩:Item),.int .i64 0,.int .i64 0,.int .i64 0,enc (⟨0,0⟩:Item),.aj ⟨#[]⟩]=enc (default:ah):=rfl
theorem El:(∀ A n b rest (q r:Item),ep A (some 2) n [] b (enc q) rest (some (enc r))=ao rest (A.aQ n (.box (enc q))))∧fB [.int .i64 0,.int .i64 0] [(0,.int .i64 (-1))]=some [.int .i64 (-1),.int .i64 0]∧I.agg [.int .i64 (-1),.int .i64 0]=enc (⟨-1,0⟩:Item) ∧
  (∀ (x:Item),(I.agg [.int .i64 x.aO,.int .i64 (x.no+1)])=enc (⟨x.aO,x.no+1⟩:Item)) :=
 ⟨fun A n b rest q r=>by rw[fC (eZ _) (by rw[ik];rfl) ((eB _).trans (eB _).symm),fA],rfl,rfl,fun _=>rfl⟩
theorem WV{l:List ah}{i:Nat}(h:i<l.length):gm (l.take (i+1))=l[i].bg:=by
 rw[gm,jr h,List.getLast?_concat]
theorem WW{l:List ah}(h:∀ r∈l,bd r=true):-1≤(gm l).aO∧(gm l).aO≤5∧0≤(gm l).no∧(gm l).no≤9999:=by
 rw[gm];cases e:l.getLast? with
 |none=>simp
 |some a =>
  have:=pR (pS (h a (List.mem_of_getLast? e)));simp only[ah.bg];omega
theorem Fy(l:List ah)(hl:l.length≤4000000000000):aR Tryz.prog 92 [enc (⟨l⟩:iD)] (enc (kQ l)):=by
 refine aR.bK Tryz.func92 HY Jc Kv (t8 rfl) (fun hwf W0 bB E1 =>?_);simp only[yS,Da,bA];clear hwf;have R:=aC
 repeat' ((first |(with_reducible refine .guard (fun hb =>?_) (fun hb =>?_) <;>try simp only[hb])|refine U.aG (by decide +kernel) rfl fun K hK =>?_|(refine .aE [0,1,2,3,4,5,7,8,9,10,16,19,49] hK ?_;clear hK K)|(with_reducible refine .done (hK _ ?_);clear hK K)|refine U.of rfl ?_|(with_reducible refine av.aF (fun h =>?_) (fun h =>?_) <;>try simp only[h])) <;>try simp only[aH,R,simprocAttr])
 all_goals clear R
 refine U.loop (fun i:Nat=>aw [(1,.ptr 1 []),(7,enc l),(8,.int .i64 l.length),(9,.int .i64 i)] [(1,.box (enc (⟨l⟩:iD)))]) (fun i=>i≤l.length∧(∀ r∈l.take i,bd r=true)∧kQ l=(eR (fun out r=>bd r&&ib out r) (l.take i) (l.drop i)&&decide (l.length≤60))) (fun i=>l.length-i) 0 ⟨zy9 _,by simp,rfl⟩ ?_ ?_
 ·refine bC.cO ?_ ?_ ?_ ?_ <;>simp[cm,cv,ct,bW,aI,cj,dX,I.only,ai.only,bI]
  all_goals rfl
 rintro i ⟨hi,hk,heq⟩;rw[heq];by_cases hlt:i<l.length
 ·have hlc:=fj hlt;have he:=fun A=>fi (A:=A) 8 hlt rfl;have hw:=eP (i:=i) (by omega);have hnx:=vD hlt hk;have hpi:=WW hk;have hst:=Yd (l.take i) l[i];rw[FV hlt] at heq ⊢;have hpz:i=0→gm (l.take i)=⟨-1,0⟩:=fun e=>by subst e;rfl
  have hps:∀ h:0<i,gm (l.take i)=(l[i-1]'(by omega)).bg:=fun h=>by
   have:=WV (l:=l) (i:=i-1) (by omega)
   rwa [show i-1+1=i by omega] at this
  generalize l[i]=r at *;have f80:=oK r;cases q1:bd r
  ·rw[q1] at f80;have R:=y6 @hlc (y6 @he (y6 @hw (y6 @fu (y6 @fD aC))))
   repeat' ((first |(with_reducible refine .guard (fun hb =>?_) (fun hb =>?_) <;>try simp only[hb])|refine U.aG (by decide +kernel) rfl fun K hK =>?_|refine .flat _ (f80) rfl ?_|(refine .aE [0,1,2,3,4,5,7,8,9,10,16,19,49] hK ?_;clear hK K)|(with_reducible refine .done (hK _ ?_);clear hK K)|refine U.of rfl ?_|(with_reducible refine av.aF (fun h =>?_) (fun h =>?_) <;>try simp only[h])) <;>try simp only[aH,R,simprocAttr])
   all_goals clear R
   all_goals rfl
  rw[q1] at f80;generalize gm (l.take i)=p at *;have hww:IntKind.i64.wrap (p.no+1)=p.no+1:=ea _ (by omega) (by omega);rw[hst] at heq ⊢;by_cases hz:0<i
  ·have hgt:decide ((i:Int)>0)=true:=decide_eq_true (by omega);have hpe:=fun A=>fi (A:=A) (l:=l) (k:=i-1) 8 (by omega) rfl;have hw1:IntKind.i64.wrap ((i:Int)-1)=((i-1:Nat):Int):=by rw[ea _ (by omega) (by omega)];omega
   have hpm:=(hps hz).symm;clear hps hpz hst;generalize l[i-1]=q at *;cases c1:decide (r.bg=⟨p.aO,p.no+1⟩) <;>cases c2:decide (r.aO≤p.aO) <;>cases c3:(r.no != 0)
   all_goals
    rw[c1,c2,c3] at heq;have R:=y6 @hlc (y6 @he (y6 @hw (y6 @hgt (y6 @hpm (y6 @hpe (y6 @hw1 (y6 @hww (y6 @c1 (y6 @c2 (y6 @c3 (y6 @zF (y6 @fu (y6 @pc (y6 @fD (y6 @El (y6 @nE aC))))))))))))))))
    repeat' ((first |(with_reducible refine .guard (fun hb =>?_) (fun hb =>?_) <;>try simp only[hb])|refine U.aG (by decide +kernel) rfl fun K hK =>?_|refine .flat _ (f80) rfl ?_|(refine .aE [0,1,2,3,4,5,7,8,9,10,16,19,49] hK ?_;clear hK K)|(with_reducible refine .done (hK _ ?_);clear hK K)|refine U.of rfl ?_|(with_reducible refine av.aF (fun h =>?_) (fun h =>?_) <;>try simp only[h])) <;>try simp only[aH,R,simprocAttr])
    all_goals clear R
    all_goals first
     |rfl
     |(refine ⟨i+1,⟨by omega,hnx q1,by rfl⟩,by omega,?_⟩;clear heq hnx;(refine bC.cO ?_ ?_ ?_ ?_ <;>simp[cm,cv,ct,bW,aI,cj,dX,I.only,ai.only,bI]);all_goals rfl)
  ·have hgt:decide ((i:Int)>0)=false:=decide_eq_false (by omega);have hpm:=(hpz (by omega)).symm;clear hps hpz hst;cases c1:decide (r.bg=⟨p.aO,p.no+1⟩) <;>cases c2:decide (r.aO≤p.aO) <;>cases c3:(r.no != 0)
   all_goals
    rw[c1,c2,c3] at heq;have R:=y6 @hlc (y6 @he (y6 @hw (y6 @hgt (y6 @hpm (y6 @hww (y6 @c1 (y6 @c2 (y6 @c3 (y6 @zF (y6 @fu (y6 @pc (y6 @fD (y6 @El (y6 @nE aC))))))))))))))
    repeat' ((first |(with_reducible refine .guard (fun hb =>?_) (fun hb =>?_) <;>try simp only[hb])|refine U.aG (by decide +kernel) rfl fun K hK =>?_|refine .flat _ (f80) rfl ?_|(refine .aE [0,1,2,3,4,5,7,8,9,10,16,19,49] hK ?_;clear hK K)|(with_reducible refine .done (hK _ ?_);clear hK K)|refine U.of rfl ?_|(with_reducible refine av.aF (fun h =>?_) (fun h =>?_) <;>try simp only[h])) <;>try simp only[aH,R,simprocAttr])
    all_goals clear R
    all_goals first
     |rfl
     |(refine ⟨i+1,⟨by omega,hnx q1,by rfl⟩,by omega,?_⟩;clear heq hnx;(refine bC.cO ?_ ?_ ?_ ?_ <;>simp[cm,cv,ct,bW,aI,cj,dX,I.only,ai.only,bI]);all_goals rfl)
 ·have hlc:=fH hlt;rw[List.drop_eq_nil_of_le (by omega),eR];have hle:decide ((l.length:Int)≤60)=decide (l.length≤60):=by rw[decide_eq_decide];omega
  have R:=y6 @hlc (y6 @hle aC)
  repeat' ((first |(with_reducible refine .guard (fun hb =>?_) (fun hb =>?_) <;>try simp only[hb])|refine U.aG (by decide +kernel) rfl fun K hK =>?_|(refine .aE [0,1,2,3,4,5,7,8,9,10,16,19,49] hK ?_;clear hK K)|(with_reducible refine .done (hK _ ?_);clear hK K)|refine U.of rfl ?_|(with_reducible refine av.aF (fun h =>?_) (fun h =>?_) <;>try simp only[h])) <;>try simp only[aH,R,simprocAttr])
  all_goals clear R
  all_goals rfl
theorem wJ(l:List ah)(m:Nat):(l++List.replicate m cn).take l.length=l:=List.take_left
theorem tC(l:List ah)(hl:l.length≤1000):aR Tryz.prog 93 [enc l] (enc l):=by
 refine aR.bK Tryz.func93 y8 ze zp (t8 rfl) (fun hwf W0 bB E1 =>?_);simp only[tY,vO,bA];refine .dI (by decide +kernel) fun K hK =>?_;simp only[uU,aZ,simprocAttr];refine .done (hK _ ?_);clear hK K;refine U.seq (U.seq ?_);by_cases hn:l=[]
 ·subst hn;refine .gW (by decide +kernel) fun K hK =>?_;simp only[pq,aZ,simprocAttr];simp only[th,List.isEmpty_nil,oe];refine .any rfl fun b _ =>?_
  try simp only[aZ,simprocAttr]
  generalize (b==0)=t;cases t
  ·refine .done (hK _ ?_);clear hK K;try simp only[cQ]
   refine U.gC ?_;simp only[av,aZ,simprocAttr];refine ⟨fun h =>?_,fun h =>?_⟩
   ·cases h
   refine U.skip ?_;try simp only[cQ,simprocAttr]
   refine .dI (by decide +kernel) fun K hK =>?_;simp only[pt,aZ,simprocAttr]
   try simp only[gr,kU,aZ,simprocAttr]
   refine .done (hK _ ?_);clear hK K;refine U.ret ?_;simp only[aZ,simprocAttr]
   all_goals rfl
  ·refine .done (hK _ ?_);clear hK K;refine U.gC ?_;simp only[av,aZ,simprocAttr];refine ⟨fun h =>?_,fun h =>?_⟩
   ·refine .dI (by decide +kernel) fun K hK =>?_;simp only[uV,aZ,simprocAttr];refine .done (hK _ ?_);clear hK K;refine U.ret ?_;simp only[cQ,aZ,simprocAttr]
    all_goals rfl
   ·cases h
 ·have hu:iT (enc l)=false:=by rw[th];simpa using hn
  refine .gW (by decide +kernel) fun K hK =>?_;simp only[pq,aZ,simprocAttr]
  try simp only[hu,Bw _ l hn,aZ,simprocAttr]
  refine .done (hK _ ?_);clear hK K;try simp only[cQ]
  refine U.gC ?_;simp only[av,aZ,simprocAttr];refine ⟨fun h =>?_,fun h =>?_⟩
  ·cases h
  refine U.skip ?_;try simp only[cQ,simprocAttr]
  refine .dI (by decide +kernel) fun K hK =>?_;simp only[pt,aZ,simprocAttr]
  try simp only[gr,kU,aZ,simprocAttr]
  refine aX.tK cn rfl hn rfl (by omega) (by simp only[maxLen];omega) fun m =>?_
  try simp only[aZ,simprocAttr]
  refine .done (hK _ ?_);clear hK K;refine U.ret ?_;simp only[aZ,simprocAttr]
  try simp only[pj (α:=ah) (sz:=8) rfl,wJ,aZ,simprocAttr]
def AS(g:ah):bX:=fun r os'=>∃ q,r=.view 25 [] 8 0 1∧os'=eO 25 [g] q
theorem DY(A:ab):iA A 8 (some (.int .i64 0)) none none (.c0 8)=some (.slice 8 [])∧iA A 8 (some (.int .i64 0)) none none (.nils 8)=some (.slice 8 []):=by
 constructor <;>simp[iA,hU,gy]
theorem EO(x:I)(hx:x=.nils 8∨x=.c0 8)(g:ah):eL Tryz.prog 101 [x,enc (0:Int),enc [g]] [] (AS g):=by
 rcases hx with rfl | rfl
 ·refine eL.bK Tryz.func101 ua uc ui (t8 rfl) (t8 rfl) (fun m hm=>by simp[aI,aD] at hm) (fun hwf W0 bB E1 =>?_);simp only[qQ,sH,bA,Z4,Nat.reduceAdd];refine .dI (by decide +kernel) fun K hK =>?_;simp only[rq,aZ];refine .done (hK _ ?_);clear hK K;refine .dI (by decide +kernel) fun K hK =>?_;simp only[rr,aZ,Nat.reduceEqDiff,reduceIte]
  try simp only[zz4,(DY _).2,aZ]
  refine .done (hK _ ?_);clear hK K;refine .dI (by decide +kernel) fun K hK =>?_;simp only[ru,aZ,Nat.reduceEqDiff,reduceIte]
  try simp only[typR,iU,jJ,iJ,aZ,Nat.reduceEqDiff,reduceIte,Int.reduceBNe,Int.reduceBEq]
  refine .done (hK _ ?_);clear hK K;refine U.seq (U.seq ?_);refine .gW (by decide +kernel) fun K hK =>?_;simp only[rv,aZ,Nat.reduceEqDiff,reduceIte]
  try simp only[typR,iU,jJ,iJ,aZ,Nat.reduceEqDiff,reduceIte,Int.reduceBNe,Int.reduceBEq]
  refine .done (hK _ ?_);clear hK K;try simp only[cQ]
  refine U.gC ?_;simp only[av,aZ,Nat.reduceEqDiff,reduceIte];refine ⟨fun h =>?_,fun h =>?_⟩
  ·first | cases h | simp at h
  refine U.skip ?_;try simp only[cQ]
  refine .dI (by decide +kernel) fun K hK =>?_;simp only[ry,aZ,Nat.reduceEqDiff,reduceIte]
  try simp only[typR,iU,jJ,iJ,aZ,Nat.reduceEqDiff,reduceIte,Int.reduceBNe,Int.reduceBEq]
  refine .done (hK _ ?_);clear hK K;refine U.seq (U.seq ?_);refine .gW (by decide +kernel) fun K hK =>?_;simp only[rz,aZ,Nat.reduceEqDiff,reduceIte,Int.reduceBEq]
  try simp only[typR,iU,jJ,iJ,aZ,Nat.reduceEqDiff,reduceIte,Int.reduceBNe,Int.reduceBEq]
  refine .done (hK _ ?_);clear hK K;try simp only[cQ]
  refine U.gC ?_;simp only[av,aZ,Nat.reduceEqDiff,reduceIte];refine ⟨fun h =>?_,fun h =>?_⟩
  case refine_2.refine_2=>first | cases h | simp at h
  refine .dI (by decide +kernel) fun K hK =>?_;simp only[po,aZ,Nat.reduceEqDiff,reduceIte]
  try simp only[kU]
  refine aX.F3 (esz:=8) cn (l:=[g]) rfl (by simp) rfl (by simp) (by simp[maxLen]) fun q =>?_
  try simp only[aZ,Nat.reduceEqDiff,reduceIte]
  refine .done (hK _ ?_);clear hK K;refine U.ret ?_;simp only[cQ,jN];exact ⟨eO 25 [g] q,[.view 25 [] 8 0 1],nT rfl (fun p=>fk p _),⟨⟨_,rfl,.inl ⟨rfl,rfl,rfl⟩⟩,trivial⟩,q,rfl,rfl⟩
 ·refine eL.bK Tryz.func101 ua uc ui (t8 rfl) (t8 rfl) (fun m hm=>by simp[aI,aD] at hm) (fun hwf W0 bB E1 =>?_);simp only[qQ,sH,bA,Z4,Nat.reduceAdd];refine .dI (by decide +kernel) fun K hK =>?_;simp only[rq,aZ];refine .done (hK _ ?_);clear hK K;refine .dI (by decide +kernel) fun K hK =>?_;simp only[rr,aZ,Nat.reduceEqDiff,reduceIte]
  try simp only[zz4,(DY _).1,aZ]
  refine .done (hK _ ?_);clear hK K;refine .dI (by decide +kernel) fun K hK =>?_;simp only[ru,aZ,Nat.reduceEqDiff,reduceIte]
  try simp only[typR,iU,jJ,iJ,aZ,Nat.reduceEqDiff,reduceIte,Int.reduceBNe,Int.reduceBEq]
  refine .done (hK _ ?_);clear hK K;refine U.seq (U.seq ?_);refine .gW (by decide +kernel) fun K hK =>?_;simp only[rv,aZ,Nat.reduceEqDiff,reduceIte]
  try simp only[typR,iU,jJ,iJ,aZ,Nat.reduceEqDiff,reduceIte,Int.reduceBNe,Int.reduceBEq]
  refine .done (hK _ ?_);clear hK K;try simp only[cQ]
  refine U.gC ?_;simp only[av,aZ,Nat.reduceEqDiff,reduceIte];refine ⟨fun h =>?_,fun h =>?_⟩
  ·first | cases h | simp at h
  refine U.skip ?_;try simp only[cQ]
  refine .dI (by decide +kernel) fun K hK =>?_;simp only[ry,aZ,Nat.reduceEqDiff,reduceIte]
  try simp only[typR,iU,jJ,iJ,aZ,Nat.reduceEqDiff,reduceIte,Int.reduceBNe,Int.reduceBEq]
  refine .done (hK _ ?_);clear hK K;refine U.seq (U.seq ?_);refine .gW (by decide +kernel) fun K hK =>?_;simp only[rz,aZ,Nat.reduceEqDiff,reduceIte,Int.reduceBEq]
  try simp only[typR,iU,jJ,iJ,aZ,Nat.reduceEqDiff,reduceIte,Int.reduceBNe,Int.reduceBEq]
  refine .done (hK _ ?_);clear hK K;try simp only[cQ]
  refine U.gC ?_;simp only[av,aZ,Nat.reduceEqDiff,reduceIte];refine ⟨fun h =>?_,fun h =>?_⟩
  case refine_2.refine_2=>first | cases h | simp at h
  refine .dI (by decide +kernel) fun K hK =>?_;simp only[po,aZ,Nat.reduceEqDiff,reduceIte]
  try simp only[kU]
  refine aX.tK (esz:=8) cn (l:=[g]) rfl (by simp) rfl (by simp) (by simp[maxLen]) fun q =>?_
  try simp only[aZ,Nat.reduceEqDiff,reduceIte]
  refine .done (hK _ ?_);clear hK K;refine U.ret ?_;simp only[cQ,jN];exact ⟨eO 25 [g] q,[.view 25 [] 8 0 1],nT rfl (fun p=>fk p _),⟨⟨_,rfl,.inl ⟨rfl,rfl,rfl⟩⟩,trivial⟩,q,rfl,rfl⟩
theorem dv.BQ{aB:Bool}{ρ:List (Nat×Nat)}{k:Nat}{x:ai}{os0:List (Nat×ai)}{r c:I}(h1:∀ p,c.only p=true)(h2:aB=true→c.cV=true)(h3:r.only (aI [(k,.box c)])=true)(h4:aB=true→r.cV=true):dv aB ρ [(k,x)] os0 r [(k,.box c)]:=by
 refine ⟨fun m x h =>?_,fun m m' h h' _ =>?_,fun m h =>?_,fun m h h' =>?_,h3,h4⟩
 ·simp only[aD] at h;split at h
  ·simp only[v6] at h;subst h;exact ⟨h1 _,rfl,h2⟩
  ·cases h
 ·rw[fI.1 h,fI.1 h']
 ·rw[fI.1 h];exact fI.2 rfl
 ·rw[fI.1 h] at h';have:aI [(k,x)] k=true:=fI.2 rfl;rw[this] at h';cases h'
theorem dv.oD{aB:Bool}{ρ:List (Nat×Nat)}{k k' d d':Nat}{x:ai}{os0:List (Nat×ai)}{r c c':I}(hk:bq ρ k=d)(hk':bq ρ k'=d')(hd:d≠d')(hne:k≠k')(h1:∀ p,c.only p=true)(h2:aB=true→c.cV=true)(h1':∀ p,c'.only p=true)(h2':aB=true→c'.cV=true)
  (h3:r.only (aI [(k,.box c),(k',.box c')])=true) (h4:aB=true→r.cV=true) (h5:aD os0 d=none) (h6:d<1000000):dv aB ρ [(k',x)] os0 r [(k,.box c),(k',.box c')]:=by
 have oD:∀ m,aI [(k,ai.box c),(k',ai.box c')] m=true→m=k∨m=k':=fun m h=>by
  simp only[aI,aD] at h;split at h
  ·rename_i e;exact .inl e
  ·split at h
   ·rename_i e;exact .inr e
   ·cases h
 refine ⟨fun m y h =>?_,fun m m' h h' e =>?_,fun m h =>?_,fun m h h' =>?_,h3,h4⟩
 ·simp only[aD] at h;split at h
  ·simp only[v6] at h;subst h;exact ⟨h1 _,rfl,h2⟩
  ·split at h
   ·simp only[v6] at h;subst h;exact ⟨h1' _,rfl,h2'⟩
   ·cases h
 ·rcases oD m h with rfl | rfl <;>rcases oD m' h' with rfl | rfl
  ·rfl
  ·rw[hk,hk'] at e;exact absurd e hd
  ·rw[hk,hk'] at e;exact absurd e.symm hd
  ·rfl
 ·rw[fI.1 h];simp[aI,aD,Ne.symm hne]
 ·rcases oD m h with rfl | rfl
  ·rw[hk];exact ⟨h5,h6⟩
  ·have:aI [(m,x)] m=true:=fI.2 rfl;rw[this] at h';cases h'
def gP(l:List ah)(r:ah):List ah×Int :=
 if kQ l=false then ([],81) else if bd r=false then ([],80)
 else if iM l r.bg=true then (if l.getD (fb l r.bg) default=r then (l,0) else ([],82))
 else if (dm l r.aO:Int)<r.no then ([],83) else if l.length=60 then ([],2) else (fU l (fb l r.bg) r,0)
theorem oP{aV:List ah→ah→Bool} : ∀ {l out:List ah},eR (fun out r=>bd r&&aV out r) out l=true↔(∀ r∈l,bd r=true)∧eR aV out l=true
 | [],_=>by simp[eR]
 |r::l,out=>by
  simp only[eR,Z0,oP (l:=l),zy0,forall_eq_or_imp];constructor
  ·rintro ⟨⟨h1,h2⟩,h3,h4⟩;exact ⟨⟨h1,h3⟩,h2,h4⟩
  ·rintro ⟨⟨h1,h3⟩,h2,h4⟩;exact ⟨⟨h1,h2⟩,h3,h4⟩
structure FD (l:List ah):Prop where
 ok:∀ r∈l,bd r=true
 Ej:lH l
 len:l.length≤60
 step:eR ib [] l=true
theorem vC{r:ah}(h:bd r=true):0≤r.aO∧0≤r.no:=by have:=pR (pS h);omega
theorem GM{l:List ah}(h:kQ l=true):FD l:=by
 simp only[kQ,Z0,decide_eq_true_eq] at h;obtain ⟨h1,h2⟩:=h;obtain ⟨h3,h4⟩:=oP.1 h1;refine ⟨h3,?_,h2,h4⟩;have:=xL l [] trivial (fun r hr=>vC (h3 r hr)) h4 List.Pairwise.nil;simpa using this
theorem gL:(∀ A n b rest,ep A (some 1) n [] b (.agg [.nils 8]) rest (some (.agg [.nils 8]))=ao rest (A.aQ n (.box (.agg [.nils 8])))) ∧
  (∀ A n b rest m p lo k,ep A (some 1) n [] b (.agg [.view m p 8 lo k]) rest (some (.agg [.nils 8]))=ao rest (A.aQ n (.box (.agg [.view m p 8 lo k])))) ∧
  (∀ A n b rest (l:List ah),ep A (some 1) n [] b (.agg [enc l]) rest (some (.agg [.nils 8]))=ao rest (A.aQ n (.box (.agg [enc l])))) ∧
  (∀ l:List ah,fB [.nils 8] [(0,enc l)]=some [enc l])∧(∀ m p lo k,fB [.nils 8] [(0,.view m p 8 lo k)]=some [.view m p 8 lo k])∧(∀ l:List ah,bU (some 1) (.agg [enc l])=true)∧bU (some 1) (.agg [.nils 8])=true∧(∀ m p lo k,bU (some 1) (.agg [.view m p 8 lo k])=true) :=
 ⟨fun A n b rest=>by rw[fC (s:=some 1) (v:=.agg [.nils 8]) (old:=.agg [.nils 8]) rfl rfl rfl,fA],fun A n b rest m p lo k=>by rw[fC (s:=some 1) (v:=.agg [.view m p 8 lo k]) (old:=.agg [.nils 8]) rfl rfl rfl,fA],
  fun A n b rest l=>by rw[fC (s:=some 1) (v:=.agg [enc l]) (old:=.agg [.nils 8]) rfl rfl rfl,fA],fun _=>rfl,fun _ _ _ _=>rfl,fun _=>rfl,rfl,fun _ _ _ _=>rfl⟩
theorem Fm(l:List ah)(r:ah)(hl:l.length≤4000000000000):aR Tryz.prog 44 [enc (⟨l⟩:iD),enc r] (.tuple [enc (⟨(gP l r).1⟩:iD),enc (gP l r).2]):=by
 refine aR.bK Tryz.func44 HC IS Ka (t8 rfl) (fun hwf W0 bB E1 =>?_);simp only[yC,CQ,bA,Z4];clear hwf;have f92:=Fy l hl;simp only[gP];cases q1:kQ l
 ·rw[q1] at f92;simp only[if_true];have R:=y6 @gL aC
  repeat' ((first |(with_reducible refine .guard (fun hb =>?_) (fun hb =>?_) <;>try simp only[hb])|refine U.aG (by decide +kernel) rfl fun K hK =>?_|refine .flat _ (f92) rfl ?_|(refine .aE [0,1,2,3,4,5,6,7,8,13,25,40,43,56] hK ?_;clear hK K)|(with_reducible refine .done (hK _ ?_);clear hK K)|refine U.of rfl ?_|(with_reducible refine av.aF (fun h =>?_) (fun h =>?_) <;>try simp only[h])) <;>try simp only[aH,R,simprocAttr])
  all_goals clear R
  all_goals rfl
 rw[q1] at f92;have hb:=GM q1;have f80:=oK r;simp only[Bool.true_eq_false,if_false];cases q2:bd r
 ·rw[q2] at f80;simp only[if_true];have R:=y6 @gL aC
  repeat' ((first |(with_reducible refine .guard (fun hb =>?_) (fun hb =>?_) <;>try simp only[hb])|refine U.aG (by decide +kernel) rfl fun K hK =>?_|refine .flat _ (f92) rfl ?_|refine .flat _ (f80) rfl ?_|(refine .aE [0,1,2,3,4,5,6,7,8,13,25,40,43,56] hK ?_;clear hK K)|(with_reducible refine .done (hK _ ?_);clear hK K)|refine U.of rfl ?_|(with_reducible refine av.aF (fun h =>?_) (fun h =>?_) <;>try simp only[h])) <;>try simp only[aH,R,simprocAttr])
  all_goals clear R
  all_goals rfl
 rw[q2] at f80;simp only[Bool.true_eq_false,if_false];have hlen:=hb.len;have f94:=Fz l r.bg hb.Ej (by omega);have hpl:=WS l r.bg;have hcl:=tC l (by omega);cases q3:iM l r.bg
 rotate_left
 ·rw[q3] at f94;obtain ⟨hp,hat⟩:=(u2 hb.Ej r.bg).1 q3;simp only[if_true];have hg:l.getD (fb l r.bg) default=l[fb l r.bg]:=by simp[Y8,hp]
  rw[hg];have he:=fun A=>fi (A:=A) 8 hp rfl;generalize l[fb l r.bg]=x at *;generalize fb l r.bg=p at *;by_cases q4:x=r
  ·have q4':decide (x=r)=true:=decide_eq_true q4;rw[if_pos q4];have R:=y6 @he (y6 @q4' (y6 @gL aC))
   repeat' ((first |(with_reducible refine .guard (fun hb =>?_) (fun hb =>?_) <;>try simp only[hb])|refine U.aG (by decide +kernel) rfl fun K hK =>?_|refine .flat _ (f92) rfl ?_|refine .flat _ (f80) rfl ?_|refine .lead _ (f94) ?_|refine .lead _ (hcl) ?_|(refine .aE [0,1,2,3,4,5,6,7,8,13,25,40,43,56] hK ?_;clear hK K)|(with_reducible refine .done (hK _ ?_);clear hK K)|refine U.of rfl ?_|(with_reducible refine av.aF (fun h =>?_) (fun h =>?_) <;>try simp only[h])) <;>try simp only[aH,R,simprocAttr])
   all_goals clear R
   all_goals rfl
  ·have q4':decide (x=r)=false:=decide_eq_false q4;rw[if_neg q4];have R:=y6 @he (y6 @q4' (y6 @gL aC))
   repeat' ((first |(with_reducible refine .guard (fun hb =>?_) (fun hb =>?_) <;>try simp only[hb])|refine U.aG (by decide +kernel) rfl fun K hK =>?_|refine .flat _ (f92) rfl ?_|refine .flat _ (f80) rfl ?_|refine .lead _ (f94) ?_|refine .lead _ (hcl) ?_|(refine .aE [0,1,2,3,4,5,6,7,8,13,25,40,43,56] hK ?_;clear hK K)|(with_reducible refine .done (hK _ ?_);clear hK K)|refine U.of rfl ?_|(with_reducible refine av.aF (fun h =>?_) (fun h =>?_) <;>try simp only[h])) <;>try simp only[aH,R,simprocAttr])
   all_goals clear R
   all_goals rfl
 rw[q3] at f94;simp only[Z5,if_false];have hin:nV l:=fun x hx=>kg (hb.ok x hx);have f100:=wQ l hl hin;have hix:=rQ l (kg q2);by_cases q5:(dm l r.aO:Int)<r.no
 ·have q5':decide ((dm l r.aO:Int)<r.no)=true:=decide_eq_true q5;rw[if_pos q5];have R:=y6 @hix (y6 @q5' (y6 @iR (y6 @gL aC)))
  repeat' ((first |(with_reducible refine .guard (fun hb =>?_) (fun hb =>?_) <;>try simp only[hb])|refine U.aG (by decide +kernel) rfl fun K hK =>?_|refine .flat _ (f92) rfl ?_|refine .flat _ (f80) rfl ?_|refine .lead _ (f94) ?_|refine .lead _ (f100) ?_|(refine .aE [0,1,2,3,4,5,6,7,8,13,25,40,43,56] hK ?_;clear hK K)|(with_reducible refine .done (hK _ ?_);clear hK K)|refine U.of rfl ?_|(with_reducible refine av.aF (fun h =>?_) (fun h =>?_) <;>try simp only[h])) <;>try simp only[aH,R,simprocAttr])
  all_goals clear R
  all_goals rfl
 have q5':decide ((dm l r.aO:Int)<r.no)=false:=decide_eq_false q5;rw[if_neg q5];by_cases q6:l.length=60
 ·have q6':((l.length:Int)==60)=true:=by rw[beq_iff_eq];omega
  rw[if_pos q6];have R:=y6 @hix (y6 @q5' (y6 @q6' (y6 @iR (y6 @gL aC))))
  repeat' ((first |(with_reducible refine .guard (fun hb =>?_) (fun hb =>?_) <;>try simp only[hb])|refine U.aG (by decide +kernel) rfl fun K hK =>?_|refine .flat _ (f92) rfl ?_|refine .flat _ (f80) rfl ?_|refine .lead _ (f94) ?_|refine .lead _ (f100) ?_|(refine .aE [0,1,2,3,4,5,6,7,8,13,25,40,43,56] hK ?_;clear hK K)|(with_reducible refine .done (hK _ ?_);clear hK K)|refine U.of rfl ?_|(with_reducible refine av.aF (fun h =>?_) (fun h =>?_) <;>try simp only[h])) <;>try simp only[aH,R,simprocAttr])
  all_goals clear R
  all_goals rfl
 have q6':((l.length:Int)==60)=false:=by rw[beq_eq_false_iff_ne];omega
 rw[if_neg q6];have hbs:gz 8 (some [enc r])=some (enc [r]):=oZ 8 r rfl;have R:=y6 @hix (y6 @q5' (y6 @q6' (y6 @hbs (y6 @iR (y6 @gL aC)))))
 repeat' ((first |(with_reducible refine .guard (fun hb =>?_) (fun hb =>?_) <;>try simp only[hb])|(refine U.l9 (gs:=uP) [101] [(2,[2]),(3,[3]),(4,[4]),(62,[2])] [0,1,3,4,5,2,6,7,8,9] (by decide +kernel) (dC.of (by simp[jD,cj,Bn,I.only])) fun K hK =>?_;simp only[kl,uP,List.getD_cons_zero,List.getD_cons_succ,R,simprocAttr])|refine U.aG (by decide +kernel) rfl fun K hK =>?_|refine .flat _ (f92) rfl ?_|refine .flat _ (f80) rfl ?_|refine .lead _ (f94) ?_|refine .lead _ (f100) ?_|(refine .aE [0,1,2,3,4,5,6,7,8,13,25,40,43,56] hK ?_;clear hK K)|(with_reducible refine .done (hK _ ?_);clear hK K)|refine U.of rfl ?_|(with_reducible refine av.aF (fun h =>?_) (fun h =>?_) <;>try simp only[h])) <;>try simp only[aH,R,simprocAttr])
 all_goals clear R
 obtain ⟨ar,hL⟩:∃ ar,ar=fU l (fb l r.bg) r:=⟨_,rfl⟩
 have hLn:l.length+1=ar.length:=by rw[hL,UH r hpl]
 have hfin:∀ q,j7 8 0 (l.length+1) (some ((ar++List.replicate q cn).map enc))=some (enc ar):=fun q=>by
  rw[pj (α:=ah) (sz:=8) rfl,hLn,wJ]
 refine .bx [(7,64)] [enc l] (o9 l) (tz l (by omega)) eM.nil ⟨.inl ⟨(il _ _).symm,bI _ _,eZ _⟩,trivial⟩ ?_ ?_
 ·rintro x os' (⟨_,h | h,rfl⟩ | ⟨_,k,rfl,rfl⟩)
  ·subst h;exact dv.nil (fun _=>rfl) (fun h=>by cases h)
  ·subst h;exact dv.nil (fun _=>rfl) (fun h=>by cases h)
  ·exact dv.sh (fun p=>fk p _) (fun h=>by cases h) rfl (fun h=>by cases h) rfl (by decide)
 rintro x os' (⟨hn,h,rfl⟩ | ⟨hn,k,rfl,rfl⟩)
 ·have hren:x.aS (bq [(7,64)])=x∧x.cC=true∧∀ q,x.only q=true:=by rcases h with rfl | rfl <;>exact ⟨by simp only[I.aS],rfl,fun _=>rfl⟩
  have hren2:x.aS (bq [(25,68)])=x:=by rcases h with rfl | rfl <;>simp only[I.aS]
  have hpos:fb l r.bg=0:=by rw[hn];rfl
  rw[hren.1,hpos]
  try simp only[kq,Y6,aC,aZ,simprocAttr]
  refine .bx [(25,68)] [x,enc (0:Int),enc [r]] (AS r) (EO x h r) eM.nil ⟨.inl ⟨hren2.symm,hren.2.2 _,hren.2.1⟩,.inl ⟨rfl,rfl,rfl⟩,.inl ⟨(il _ _).symm,bI _ _,eZ _⟩,trivial⟩ ?_ ?_
  ·rintro x os' ⟨k,rfl,rfl⟩;exact dv.sh (fun p=>fk p _) (fun h=>by cases h) rfl (fun h=>by cases h) rfl (by decide)
  ·rintro x os' ⟨k,rfl,rfl⟩;have hLg:[r]=ar:=by rw[hL,hpos,hn];rfl
   have hf1:=hfin k;rw[hn] at hf1;simp only[zz8,Z4] at hf1;rw[hLg]
   try simp only[eO,kq,kr,Y3,Y6,gL,aZ,simprocAttr]
   refine .done (hK _ ?_);clear hK K;refine U.ret ?_;simp only[aZ,simprocAttr]
   try simp only[hf1,gL,aZ,simprocAttr]
   rw[←hL];rfl
 ·try simp only[eO,kq,kr,Y3,Y6,aC,aZ,simprocAttr]
  refine .vx false [(1000000,64),(25,68),(40,69)] (eO 1000000 l k) [.view 1000000 [] 8 0 l.length,enc (fb l r.bg:Int),enc [r]] (AT l (fb l r.bg) r k) rfl (EN l (fb l r.bg) r k hpl hn (by omega)) ⟨?_,?_⟩ ⟨.inl ⟨?_,?_,rfl⟩,.inl ⟨rfl,rfl,rfl⟩,.inl ⟨(il _ _).symm,bI _ _,eZ _⟩,trivial⟩ ?_ ?_
  ·intro n x h;simp only[eO,aD] at h;split at h
   ·rename_i hn';subst hn';simp only[v6] at h;subst h;exact ⟨by simp only[kq,kr,aZ,simprocAttr],fk _ _,rfl⟩
   ·cases h
  ·intro a b ha hb _;rw[Go.Abs.fI.1 ha,Go.Abs.fI.1 hb]
  ·try simp only[kq,simprocAttr]
  ·exact Go.Abs.fI.2 rfl
  ·rintro x os' (⟨q,rfl,rfl⟩ | ⟨d,q,rfl | rfl,rfl,rfl⟩)
   ·exact dv.BQ (fun p=>fk p _) (fun h=>by cases h) rfl (fun h=>by cases h)
   ·exact dv.oD rfl rfl (by decide) (by decide) (fun p=>fk p _) (fun h=>by cases h) (fun p=>fk p _) (fun h=>by cases h) rfl (fun h=>by cases h) rfl (by decide)
   ·exact dv.oD rfl rfl (by decide) (by decide) (fun p=>fk p _) (fun h=>by cases h) (fun p=>fk p _) (fun h=>by cases h) rfl (fun h=>by cases h) rfl (by decide)
  ·rintro x os' (⟨q,rfl,rfl⟩ | ⟨d,q,rfl | rfl,rfl,rfl⟩)
   all_goals
    rw[←hL];have hf1:=hfin q
    try simp only[eO,kq,kr,Y3,Y6,gL,aZ,simprocAttr]
    refine .done (hK _ ?_);clear hK K;refine U.ret ?_;simp only[aZ,simprocAttr]
    try simp only[hf1,gL,aZ,simprocAttr]
    rw[←hL];rfl
end Go.Proofs.YtoffnnjbplgnaaaGreatDoor
namespace Go.Proofs.YtoffnnjbplgnaaaGreatDoor
open Go Go.Abs Go.Shelf Go.RowKit Go.Sort Go.Proofs
open Go.Abs.Enc (enc)
def Vd:Go.Shelf.Ren:=⟨fun | 122=>161 | 215=>175 | n=>n,fun | 3=>3 | 4=>4 | n=>n,fun | n=>n⟩
theorem Vc:Go.Proofs.Lays.n122 Tryz.prog Vd := {
 mixed:=by kernel_rfl
 f122:=Tryz.func161.trans (congrArg some (by kernel_rfl))
 f215:=Tryz.func175.trans (congrArg some (by kernel_rfl))
 t3:=Tryz.underlying3
 a3:=Tryz.isAgg3
 z3:=Tryz.sizeOf3
 v3:=Tryz.zeroValue3
 t4:=Tryz.underlying4
 a4:=Tryz.isAgg4
 z4:=Tryz.sizeOf4
 v4:=Tryz.zeroValue4 }
def ve:Go.Shelf.Ren:=⟨fun | 6=>141 | 15=>163 | 14=>162 | 28=>184 | 29=>185 | 20=>176 | 21=>177 | 22=>178 | 23=>179 | 24=>180 | 25=>181 | 26=>182 | 27=>183 | 46=>199 | 47=>200 | 48=>201 | 49=>202 | 50=>203 | 57=>213 | n=>n,fun | 22=>23 | 24=>50 | 25=>188 | 3=>3 | 39=>208 | 0=>0 | 53=>225 | 55=>227 | 4=>4 | 46=>219 | 45=>218 | 50=>144 | 5=>5 | 9=>9 | 66=>243 | 70=>247 | 76=>258 | 77=>259 | n=>n,fun | n=>n⟩
theorem Bb:Go.Proofs.SlLaysF0.n6 Tryz.prog ve := {
 mixed:=by kernel_rfl
 f6 := ⟨ "slices.SortFunc[[]pinfold/api.Record,pinfold/api.Record]", by decide, Tryz.func141.trans (congrArg some (by kernel_rfl))⟩
 f14 := ⟨ "slices.pdqsortCmpFunc[pinfold/api.Record]", by decide, Tryz.func162.trans (congrArg some (by kernel_rfl))⟩
 f15:=Tryz.func163.trans (congrArg some (by kernel_rfl))
 f20 := ⟨ "slices.insertionSortCmpFunc[pinfold/api.Record]", by decide, Tryz.func176.trans (congrArg some (by kernel_rfl))⟩
 f21 := ⟨ "slices.heapSortCmpFunc[pinfold/api.Record]", by decide, Tryz.func177.trans (congrArg some (by kernel_rfl))⟩
 f22 := ⟨ "slices.breakPatternsCmpFunc[pinfold/api.Record]", by decide, Tryz.func178.trans (congrArg some (by kernel_rfl))⟩
 f23 := ⟨ "slices.choosePivotCmpFunc[pinfold/api.Record]", by decide, Tryz.func179.trans (congrArg some (by kernel_rfl))⟩
 f24 := ⟨ "slices.reverseRangeCmpFunc[pinfold/api.Record]", by decide, Tryz.func180.trans (congrArg some (by kernel_rfl))⟩
 f25 := ⟨ "slices.partialInsertionSortCmpFunc[pinfold/api.Record]", by decide, Tryz.func181.trans (congrArg some (by kernel_rfl))⟩
 f26 := ⟨ "slices.partitionEqualCmpFunc[pinfold/api.Record]", by decide, Tryz.func182.trans (congrArg some (by kernel_rfl))⟩
 f27 := ⟨ "slices.partitionCmpFunc[pinfold/api.Record]", by decide, Tryz.func183.trans (congrArg some (by kernel_rfl))⟩
 f28:=Tryz.func184.trans (congrArg some (by kernel_rfl))
 f29:=Tryz.func185.trans (congrArg some (by kernel_rfl))
 f46 := ⟨ "slices.siftDownCmpFunc[pinfold/api.Record]", by decide, Tryz.func199.trans (congrArg some (by kernel_rfl))⟩
 f47:=Tryz.func200.trans (congrArg some (by kernel_rfl))
 f48:=Tryz.func201.trans (congrArg some (by kernel_rfl))
 f49 := ⟨ "slices.medianAdjacentCmpFunc[pinfold/api.Record]", by decide, Tryz.func202.trans (congrArg some (by kernel_rfl))⟩
 f50 := ⟨ "slices.medianCmpFunc[pinfold/api.Record]", by decide, Tryz.func203.trans (congrArg some (by kernel_rfl))⟩
 f57 := ⟨ "slices.order2CmpFunc[pinfold/api.Record]", by decide, Tryz.func213.trans (congrArg some (by kernel_rfl))⟩
 t0:=Tryz.underlying0
 a0:=Tryz.isAgg0
 z0:=Tryz.sizeOf0
 v0:=Tryz.zeroValue0
 t3:=Tryz.underlying3
 a3:=Tryz.isAgg3
 z3:=Tryz.sizeOf3
 v3:=Tryz.zeroValue3
 t4:=Tryz.underlying4
 a4:=Tryz.isAgg4
 z4:=Tryz.sizeOf4
 v4:=Tryz.zeroValue4
 t5:=Tryz.underlying5
 a5:=Tryz.isAgg5
 z5:=Tryz.sizeOf5
 v5:=Tryz.zeroValue5
 t9:=Tryz.underlying9
 a9:=Tryz.isAgg9
 z9:=Tryz.sizeOf9
 v9:=Tryz.zeroValue9
 t22:=Tryz.underlying23
 a22:=Tryz.isAgg23
 z22:=Tryz.sizeOf23
 v22:=Tryz.zeroValue23
 t25:=Tryz.underlying188
 a25:=Tryz.isAgg188
 z25:=Tryz.sizeOf188
 v25:=Tryz.zeroValue188
 t39:=Tryz.underlying208
 a39:=Tryz.isAgg208
 z39:=Tryz.sizeOf208
 v39:=Tryz.zeroValue208
 t45:=Tryz.underlying218
 a45:=Tryz.isAgg218
 z45:=Tryz.sizeOf218
 v45:=Tryz.zeroValue218
 t46:=Tryz.underlying219
 a46:=Tryz.isAgg219
 z46:=Tryz.sizeOf219
 v46:=Tryz.zeroValue219
 t50:=Tryz.underlying144
 a50:=Tryz.isAgg144
 z50:=Tryz.sizeOf144
 v50:=Tryz.zeroValue144
 t53:=Tryz.underlying225
 a53:=Tryz.isAgg225
 z53:=Tryz.sizeOf225
 v53:=Tryz.zeroValue225
 t55:=Tryz.underlying227
 a55:=Tryz.isAgg227
 z55:=Tryz.sizeOf227
 v55:=Tryz.zeroValue227
 t66:=Tryz.underlying243
 a66:=Tryz.isAgg243
 z66:=Tryz.sizeOf243
 v66:=Tryz.zeroValue243
 t70:=Tryz.underlying247
 a70:=Tryz.isAgg247
 z70:=Tryz.sizeOf247
 v70:=Tryz.zeroValue247
 t76:=Tryz.underlying258
 a76:=Tryz.isAgg258
 z76:=Tryz.sizeOf258
 v76:=Tryz.zeroValue258
 t77:=Tryz.underlying259
 a77:=Tryz.isAgg259
 z77:=Tryz.sizeOf259
 v77:=Tryz.zeroValue259 }
theorem Js(a b:Int):Lib.compareInt a b=eA a b:=by
 unfold Lib.compareInt eA
 (repeat' split) <;>first | rfl | omega
theorem Jv(a b:Int)(W:World):Calls Tryz.prog 161 #[.int .i64 a,.int .i64 b] W fun e w'=>e=.returned (.int .i64 (eA a b))∧w'=W:=by
 have h:=Any.cmp_Compare_int Vc a b W;rw[Js] at h;exact h
theorem WJ(a b:Int)(W:World)(aA:Nat)(hb:W.heap[aA]?=some (.cells #[.int .i64 a,.int .i64 b] 3)):Calls Tryz.prog 160 #[.slice (some ⟨aA,0,none⟩) 2 2] W fun e w'=>e=.returned (.int .i64 (if a≠0 then a else b))∧w'=W:=by
 go_enter Tryz.func160,Tryz.ntmps160
 go_wp2
 go_loopw [8] (fun i wr=>∃ j:Nat,j≤2∧i=.int .i64 j∧wr=W∧(0<j→a=0)∧(1<j→b=0)) (fun i _=>2-(RowKit.intOf i).toNat)
 case atStart =>
  exact ⟨0,by omega,rfl,rfl,by omega,by omega⟩
 case round =>
  obtain ⟨j,hj,rfl,rfl,h0,h1⟩:=hrel;have c0:wr.cell? ⟨aA,0,none⟩=some (.int .i64 a):=by simp[World.cell?,hb]
  have c1:wr.cell? ⟨aA,1,none⟩=some (.int .i64 b):=by simp[World.cell?,hb]
  have hj3:j=0∨j=1∨j=2:=by omega
  rcases hj3 with rfl | rfl | rfl
  ·by_cases ha:a=0
   ·subst ha
    go_wp2
    refine ⟨⟨1,?_⟩,?_⟩ <;>simp[RowKit.intOf]
   ·go_wp2
    go_ret
    exact ⟨rfl,rfl⟩
  ·have ha:a=0:=h0 (by omega);by_cases hb0:b=0
   ·subst hb0
    go_wp2
    refine ⟨⟨2,?_⟩,?_⟩ <;>simp[RowKit.intOf,ha]
   ·go_wp2
    go_ret
    exact ⟨by first | rfl | simp[ha],rfl⟩
  ·have ha:a=0:=h0 (by omega);have hb0:b=0:=h1 (by omega)
   go_wp2
   go_ret
   exact ⟨by first | rfl | simp[ha,hb0],rfl⟩
theorem E8:aR Tryz.prog 141 [enc ([]:List ah),.func 142 []] (.tuple []):=by
 refine ⟨by kernel_rfl,fun w D vs _ hD hv =>?_⟩;simp only[ak] at hv;obtain ⟨u,rest,cs',rfl,hp,hr',hv2⟩:=hv;obtain ⟨a,cap,h1,_⟩:=hr';have h2:cs'=[u]:=hp;rw[h1] at h2;obtain rfl:u=.slice a 0 cap:=by simpa using h2.symm
 obtain ⟨f,rest2,cs2,rfl,hp2,hr2,rfl⟩:=hv2;simp only[ae] at hr2;obtain ⟨vs2,e2,e3⟩:=hr2;have h3:cs2=[f]:=hp2;rw[e2] at h3;simp only[ak] at e3;subst e3;obtain rfl:f=.func (.func 142) #[] #[]:=by
  have:=h3.symm;simp only[Y7,and_true] at this;rw[this];rfl
 refine (AnyF.slices_SortFunc_none (P:=Tryz.prog) (ρ:=ve) { Bb with } a cap (.func (.func 142) #[] #[]) w).mono ?_;rintro e w' ⟨rfl,rfl⟩;exact ⟨.tuple #[],D,rfl,⟨[],rfl,rfl⟩,⟨rfl,rfl,rfl,Z7 _,fun _ _=>rfl⟩,hD,fun _ _ h _=>h⟩
theorem xg:aR Tryz.prog 95 [enc ([]:List ah)] (enc (⟨[]⟩:iD)):=by
 refine aR.bK Tryz.func95 y9 zf zq (t8 rfl) (fun hwf W0 bB E1 =>?_);simp only[tZ,vP,bA];clear hwf;have h1:=tC [] (by simp);have R:=y6 @gL (y6 @j4 aC)
 repeat' ((first |refine U.aG (by decide +kernel) rfl fun K hK =>?_|refine .lead _ (h1) ?_|refine .flat _ (E8) rfl ?_|(refine .aE [0,2,3] hK ?_;clear hK K)|(with_reducible refine .done (hK _ ?_);clear hK K)|refine U.of rfl ?_|(with_reducible refine av.aF (fun h =>?_) (fun h =>?_) <;>try simp only[h])) <;>try simp only[aH,R,simprocAttr])
 all_goals clear R
 all_goals rfl
end Go.Proofs.YtoffnnjbplgnaaaGreatDoor
namespace Go.Proofs.YtoffnnjbplgnaaaGreatDoor
open Go Go.Abs
open Go.Abs.Enc (enc)
theorem nt{l:List ah}(h:er [] l=true):l.length≤60:=by
 have:=eH.len (by simp) ((oF l []).1 h);simpa using this
theorem qu{l:List ah}(h:er [] l=true):∀ r∈l,bd r=true:=eH.ok ((oF l []).1 h)
def dQ(r:cz)(l:List ah):Bool:=er [] l&&decide (r.cq.all=dZ 1 l)&&(List.range (l.length+1)).any fun i=>decide (r.copy.all=dZ 1 (l.take i))
theorem xr{p:Nat→Bool}{n i:Nat}(hi:i<n)(h:∀ k,k<i→p k=false)(hp:p i=true):(List.range n).any p=true:=List.any_eq_true.2 ⟨i,by simpa using hi,hp⟩
theorem xq{p:Nat→Bool}{n:Nat}(h:∀ k,k<n→p k=false):(List.range n).any p=false:=by
 rw[List.any_eq_false];intro k hk;rw[h k (by simpa using hk)];decide
theorem xf(r:cz)(h:r.small)(l:List ah)(hl:l.length≤4000000000000):aR Tryz.prog 87 [enc r,enc l] (enc (dQ r l)):=by
 refine aR.bK Tryz.func87 HT I7 Kq (t8 rfl) (fun hwf W0 bB E1 =>?_);simp only[yN,C5,bA,Z4];clear hwf;have f98:=FC l (by omega);have f1:=oJ r.cq h.1;have f2:=oJ r.copy h.2;simp only[dQ];cases q1:er [] l
 ·rw[q1] at f98;have R:=y6 @bm aC
  repeat' ((first |(with_reducible refine .guard (fun hb =>?_) (fun hb =>?_) <;>try simp only[hb])|refine U.aG (by decide +kernel) rfl fun K hK =>?_|refine .flat _ (f98) rfl ?_|(refine .aE [0,1,2,4,5,16,19,20,21,30] hK ?_;clear hK K)|(with_reducible refine .done (hK _ ?_);clear hK K)|refine U.of rfl ?_|(with_reducible refine av.aF (fun h =>?_) (fun h =>?_) <;>try simp only[h])) <;>try simp only[aH,R,simprocAttr])
  all_goals clear R
  all_goals rfl
 rw[q1] at f98;have hok:=qu q1;have hln:=nt q1;have f135:=wW l (by omega) hok;have hpre:=fun i=>wW (l.take i) (by rw[Y0];omega) fun x hx=>hok x (zy8 hx);cases q2:decide (r.cq.all=dZ 1 l)
 ·have R:=y6 @q2 (y6 @gK (y6 @bm aC))
  repeat' ((first |(with_reducible refine .guard (fun hb =>?_) (fun hb =>?_) <;>try simp only[hb])|refine U.aG (by decide +kernel) rfl fun K hK =>?_|refine .flat _ (f98) rfl ?_|refine .flat _ (f1) rfl ?_|refine .flat _ (f135) rfl ?_|(refine .aE [0,1,2,4,5,16,19,20,21,30] hK ?_;clear hK K)|(with_reducible refine .done (hK _ ?_);clear hK K)|refine U.of rfl ?_|(with_reducible refine av.aF (fun h =>?_) (fun h =>?_) <;>try simp only[h])) <;>try simp only[aH,R,simprocAttr])
  all_goals clear R
  all_goals rfl
 have hw0:=eP (i:=l.length) (by omega);have R:=y6 @q2 (y6 @hw0 (y6 @gK (y6 @bm aC)))
 repeat' ((first |(with_reducible refine .guard (fun hb =>?_) (fun hb =>?_) <;>try simp only[hb])|refine U.aG (by decide +kernel) rfl fun K hK =>?_|refine .flat _ (f98) rfl ?_|refine .flat _ (f1) rfl ?_|refine .flat _ (f135) rfl ?_|(refine .aE [0,1,2,4,5,16,19,20,21,30] hK ?_;clear hK K)|(with_reducible refine .done (hK _ ?_);clear hK K)|refine U.of rfl ?_|(with_reducible refine av.aF (fun h =>?_) (fun h =>?_) <;>try simp only[h])) <;>try simp only[aH,R,simprocAttr])
 all_goals clear R
 refine U.loop (fun i:Nat=>aw [(1,enc l),(2,.ptr 2 []),(19,.int .i64 ((l.length+1:Nat):Int)),(20,.int .i64 i)] [(2,.box (enc r))]) (fun i=>i≤l.length+1∧∀ k,k<i→decide (r.copy.all=dZ 1 (l.take k))=false) (fun i=>l.length+1-i) 0 ⟨zy9 _,fun k hk=>by omega⟩ ?_ ?_
 ·refine bC.cO ?_ ?_ ?_ ?_ <;>simp[cm,cv,ct,bW,aI,cj,dX,I.only,ai.only,bI]
  all_goals rfl
 rintro i ⟨hi,hk⟩;by_cases hlt:i<l.length+1
 ·have hlc:=fj hlt;have hw:=eP (i:=i) (by omega);have hsl:=fun A=>D7 (l:=l) (k:=i) A (esz:=8) rfl (by omega);have f135':=hpre i;cases q3:decide (r.copy.all=dZ 1 (l.take i))
  ·have R:=y6 @hlc (y6 @hw (y6 @hsl (y6 @q3 (y6 @jQ (y6 @bm aC)))))
   repeat' ((first |(with_reducible refine .guard (fun hb =>?_) (fun hb =>?_) <;>try simp only[hb])|refine U.aG (by decide +kernel) rfl fun K hK =>?_|refine .flat _ (f2) rfl ?_|refine .flat _ (f135') rfl ?_|(refine .aE [0,1,2,4,5,16,19,20,21,30] hK ?_;clear hK K)|(with_reducible refine .done (hK _ ?_);clear hK K)|refine U.of rfl ?_|(with_reducible refine av.aF (fun h =>?_) (fun h =>?_) <;>try simp only[h])) <;>try simp only[aH,R,zz4,simprocAttr])
   all_goals clear R
   refine ⟨i+1,⟨by omega,fun k hk2 =>?_⟩,by omega,?_⟩
   ·by_cases e:k=i
    ·rw[e];exact q3
    ·exact hk k (by omega)
   ·clear hk;refine bC.cO ?_ ?_ ?_ ?_ <;>simp[cm,cv,ct,bW,aI,cj,dX,I.only,ai.only,bI]
    all_goals rfl
  ·rw[xr hlt hk q3];have R:=y6 @hlc (y6 @hw (y6 @hsl (y6 @q3 (y6 @jQ (y6 @bm aC)))))
   repeat' ((first |(with_reducible refine .guard (fun hb =>?_) (fun hb =>?_) <;>try simp only[hb])|refine U.aG (by decide +kernel) rfl fun K hK =>?_|refine .flat _ (f2) rfl ?_|refine .flat _ (f135') rfl ?_|(refine .aE [0,1,2,4,5,16,19,20,21,30] hK ?_;clear hK K)|(with_reducible refine .done (hK _ ?_);clear hK K)|refine U.of rfl ?_|(with_reducible refine av.aF (fun h =>?_) (fun h =>?_) <;>try simp only[h])) <;>try simp only[aH,R,zz4,simprocAttr])
   all_goals clear R
   all_goals rfl
 ·have hlc:=fH hlt;rw[xq fun k hk2=>hk k (by omega)];have R:=y6 @hlc aC
  repeat' ((first |(with_reducible refine .guard (fun hb =>?_) (fun hb =>?_) <;>try simp only[hb])|refine U.aG (by decide +kernel) rfl fun K hK =>?_|(refine .aE [0,1,2,4,5,16,19,20,21,30] hK ?_;clear hK K)|(with_reducible refine .done (hK _ ?_);clear hK K)|refine U.of rfl ?_|(with_reducible refine av.aF (fun h =>?_) (fun h =>?_) <;>try simp only[h])) <;>try simp only[aH,R,simprocAttr])
  all_goals clear R
  all_goals rfl
theorem Fl(r:cz)(h:r.small)(l:List ah)(hl:l.length≤4000000000000):aR Tryz.prog 37 [enc r,enc l] (enc (if dQ r l then (0:Int) else 84)):=by
 refine aR.bK Tryz.func37 HA IP J8 (t8 rfl) (fun hwf W0 bB E1 =>?_);simp only[c37,CO,bA,Z4];clear hwf;have f:=xf r h l hl;cases q:dQ r l
 ·rw[q] at f;have R:=aC
  repeat' ((first |refine U.aG (by decide +kernel) rfl fun K hK =>?_|refine .flat _ (f) rfl ?_|(refine .aE [0,1,2,4,8] hK ?_;clear hK K)|(with_reducible refine .done (hK _ ?_);clear hK K)|refine U.of rfl ?_|(with_reducible refine av.aF (fun h =>?_) (fun h =>?_) <;>try simp only[h])) <;>try simp only[aH,R,simprocAttr])
  all_goals clear R
  all_goals rfl
 ·rw[q] at f;have R:=aC
  repeat' ((first |refine U.aG (by decide +kernel) rfl fun K hK =>?_|refine .flat _ (f) rfl ?_|(refine .aE [0,1,2,4,8] hK ?_;clear hK K)|(with_reducible refine .done (hK _ ?_);clear hK K)|refine U.of rfl ?_|(with_reducible refine av.aF (fun h =>?_) (fun h =>?_) <;>try simp only[h])) <;>try simp only[aH,R,simprocAttr])
  all_goals clear R
  all_goals rfl
section
variable {α:Type} [Enc α] {P:Program} {hs:List FuncId} {Y:Value→List I→List (Nat×ai)→bX→Prop} {K:ab→Prop} {rest:List au} {d e esz bytes:Nat}
def jU(esz:Nat)(v:I)(os:List (Nat×ai))(l:List α)(S:List Nat):Prop:=(l=[]∧(v=.c0 esz∨v=.nils esz))∨∃ n q,n∈S∧v=.view n [] esz 0 l.length∧aD os n=some (.box (.agg ((l++q).map enc)))
theorem F8{A:ab}{w:I}(hw:w=.c0 esz∨w=.nils esz)(z:I){l:List α}(hsz:Enc.sz α=esz)(hl:l≠[])(hf:A.o d=none)(hb:l.length*bytes≤140737488355328)(hml:l.length≤maxLen) :
  ∃ p:Nat→Prop,eN A (some d) e esz bytes z (enc l) rest w=.any p fun m=>ao rest ((A.aQ d (.box (.agg (l.map enc++List.replicate m z)))).aN (some d) (.view d [] esz 0 l.length)):=by
 have hne:l.map (enc (α:=α))≠[]:=by simpa using hl
 have h1:cP A esz w=some []:=by rcases hw with rfl | rfl <;>rfl
 refine ⟨fun m=>l.length+m≤maxLen,?_⟩;rcases hw with rfl | rfl <;>simp only[eN,h1,kD A esz l hsz,dV,if_neg hne,eS,hf,zz8,Z4,Z2,if_pos (y6 hb hml),Y6]
theorem F7{A:ab}(z:I)(hsz:Enc.sz α=esz){n l:Nat}{xs ys:List α}(hy:ys≠[])(ho:A.o n=some (.box (.agg (xs.map enc))))(hl:l≤xs.length)(hr:xs.length<l+ys.length)(hf:A.o d=none)(hb:(l+ys.length)*bytes≤140737488355328)(hml:l+ys.length≤maxLen) :
  ∃ p:Nat→Prop,eN A (some d) e esz bytes z (enc ys) rest (.view n [] esz 0 l)=.any p fun m=>ao rest ((A.aQ d (.box (.agg ((xs.take l).map enc++(ys.map enc++List.replicate m z))))).aN (some d) (.view d [] esz 0 (l+ys.length))):=by
 have h1:=nd (A:=A) (esz:=esz) (lo:=0) (k:=l) ho (by omega);have h2:(I.agg (xs.map (enc (α:=α)))).at []=some (.agg (xs.map enc)):=rfl;have h4:(xs.take l).length=l:=by rw[Y0];omega
 refine ⟨fun m=>l+ys.length+m≤maxLen,?_⟩;simp only[eN,h1,List.drop_zero,kD A esz ys hsz,dV];rw[if_neg (by simpa using hy)];simp only[ho,h2,Z2,Z4];rw[if_neg (by omega)];simp only[eS,hf,Z2,h4];rw[if_pos ⟨hb,hml⟩]
theorem AH(z:α){ts:List (Nat×I)}{os:List (Nat×ai)}{v:I}{l ys:List α}{S:List Nat}(hsz:Enc.sz α=esz)(hg:jU esz v os l S)(hf:aD os d=none)(hb:(l.length+ys.length)*bytes≤140737488355328)(hml:l.length+ys.length≤maxLen) :
  (∃ v' os',eN (aw ts os) (some d) e esz bytes (enc z) (enc ys) rest v=ao rest (aw ((d,v')::ts) os')∧jU esz v' os' (l++ys) (d::S)∧∀ m,m∉d::S→aD os' m=aD os m) ∨
  (∃ p,∃ v':Nat→I,∃ os':Nat→List (Nat×ai),eN (aw ts os) (some d) e esz bytes (enc z) (enc ys) rest v=.any p (fun m=>ao rest (aw ((d,v' m)::ts) (os' m)))∧∀ k,jU esz (v' k) (os' k) (l++ys) (d::S)∧∀ m,m∉d::S→aD (os' k) m=aD os m):=by
 by_cases hy:ys=[]
 ·subst hy;rw[List.append_nil];rcases hg with ⟨rfl,hv⟩ | ⟨n,q,hn,rfl,ho⟩
  ·rcases hv with rfl | rfl
   ·exact .inl ⟨.c0 esz,os,F9 _ hsz,.inl ⟨rfl,.inl rfl⟩,fun _ _=>rfl⟩
   ·refine .inl ⟨.nils esz,os,?_,.inl ⟨rfl,.inr rfl⟩,fun _ _=>rfl⟩;have h1:cP (aw ts os) esz (.nils esz)=some []:=rfl;simp only[eN,h1,kD _ esz ([]:List α) hsz,dV,zz0,if_true];rfl
  ·refine .inl ⟨_,os,?_,.inr ⟨n,q,List.mem_cons_of_mem _ hn,rfl,ho⟩,fun _ _=>rfl⟩;have h1:=nd (A:=aw ts os) (esz:=esz) (lo:=0) (k:=l.length) ho (by simp);simp only[eN,h1,kD _ esz ([]:List α) hsz,dV,zz0,if_true];rfl
 ·rcases hg with ⟨rfl,hv⟩ | ⟨n,q,hn,rfl,ho⟩
  ·obtain ⟨p,h1⟩:=F8 (A:=aw ts os) (rest:=rest) (e:=e) hv (enc z) hsz hy hf (by simpa using hb) (by simpa using hml);refine .inr ⟨p,fun m=>.view d [] esz 0 ys.length,fun m=>(d,.box (.agg (ys.map enc++List.replicate m (enc z))))::os,h1,fun k=>⟨.inr ⟨d,List.replicate k z,List.mem_cons_self,by simp,?_⟩,fun m hm =>?_⟩⟩
   ·simp[aD]
   ·rw[dX,if_neg (fun h=>by rw[h] at hm;exact hm List.mem_cons_self)]
  ·by_cases hr:l.length+ys.length≤(l++q).length
   ·have h1:=xu (A:=aw ts os) (rest:=rest) (d:=some d) (e:=e) (bytes:=bytes) (esz:=esz) (enc z) hsz hy ho hr;have e1:(l++q).take l.length++(ys++(l++q).drop (l.length+ys.length))=(l++ys)++q.drop ys.length:=by simp[List.drop_append]
    rw[e1] at h1;refine .inl ⟨_,(n,.box (.agg (((l++ys)++q.drop ys.length).map enc)))::os,h1,.inr ⟨n,q.drop ys.length,List.mem_cons_of_mem _ hn,by simp,by simp[aD]⟩,fun m hm =>?_⟩;rw[dX,if_neg (fun h=>by rw[h] at hm;exact hm (List.mem_cons_of_mem _ hn))]
   ·obtain ⟨p,h1⟩:=F7 (A:=aw ts os) (rest:=rest) (d:=d) (e:=e) (bytes:=bytes) (esz:=esz) (enc z) hsz hy ho (by simp) (by omega) hf hb hml;refine .inr ⟨p,fun m=>.view d [] esz 0 (l.length+ys.length),fun m=>(d,.box (.agg (((l++q).take l.length).map enc++(ys.map enc++List.replicate m (enc z)))))::os,h1,fun k=>⟨.inr ⟨d,List.replicate k z,List.mem_cons_self,by simp,?_⟩,fun m hm =>?_⟩⟩
    ·simp[aD]
    ·rw[dX,if_neg (fun h=>by rw[h] at hm;exact hm List.mem_cons_self)]
theorem bH.pw(z:α){ts:List (Nat×I)}{os:List (Nat×ai)}{v:I}{l ys:List α}{S:List Nat}(hsz:Enc.sz α=esz)(hg:jU esz v os l S)(hf:aD os d=none)(hb:(l.length+ys.length)*bytes≤140737488355328)(hml:l.length+ys.length≤maxLen)
  (h:∀ v' os',jU esz v' os' (l++ys) (d::S)→(∀ m,m∉d::S→aD os' m=aD os m)→bH P Y hs K (ao rest (aw ((d,v')::ts) os'))):bH P Y hs K (eN (aw ts os) (some d) e esz bytes (enc z) (enc ys) rest v):=by
 rcases AH (rest:=rest) (e:=e) z hsz hg hf hb hml (ts:=ts) with ⟨v',os',h1,h2,h3⟩ | ⟨p,v',os',h1,h2⟩
 ·rw[h1];exact h v' os' h2 h3
 ·rw[h1];exact .any fun m _=>h _ _ (h2 m).1 (h2 m).2
theorem aX.pw(z:α){ts:List (Nat×I)}{os:List (Nat×ai)}{v:I}{l ys:List α}{S:List Nat}(hsz:Enc.sz α=esz)(hg:jU esz v os l S)(hf:aD os d=none)(hb:(l.length+ys.length)*bytes≤140737488355328)(hml:l.length+ys.length≤maxLen)
  (h:∀ v' os',jU esz v' os' (l++ys) (d::S)→(∀ m,m∉d::S→aD os' m=aD os m)→aX P Y false K (ao rest (aw ((d,v')::ts) os'))):aX P Y false K (eN (aw ts os) (some d) e esz bytes (enc z) (enc ys) rest v):=by
 rcases AH (rest:=rest) (e:=e) z hsz hg hf hb hml (ts:=ts) with ⟨v',os',h1,h2,h3⟩ | ⟨p,v',os',h1,h2⟩
 ·rw[h1];exact h v' os' h2 h3
 ·rw[h1];exact .any rfl fun m _=>h _ _ (h2 m).1 (h2 m).2
theorem AI(os:List (Nat×ai))(S:List Nat):jU esz (.c0 esz) os ([]:List α) S:=.inl ⟨rfl,.inl rfl⟩
theorem rE{v:I}{os:List (Nat×ai)}{l:List α}{S:List Nat}{A:ab}(hsz:Enc.sz α=esz)(h:jU esz v os l S)(hA:∀ m∈S,A.o m=aD os m):ba true A v=some (enc l):=by
 rcases h with ⟨rfl,rfl | rfl⟩ | ⟨n,q,hn,rfl,ho⟩
 ·simp only[ba,gR,zz0,hsz]
 ·simp only[ba,gR,zz0,hsz]
 ·have h1:ba true A (.view n [] esz 0 l.length)=j7 esz 0 l.length (some ((l++q).map enc)):=by
   rw[uM,hA n hn,ho];rfl
  rw[h1,pj hsz,List.take_left]
end
theorem UA{l:List ah}{x:I}{os' os0:List (Nat×ai)}{d:Nat}(h:o9 l x os'):jU 8 (x.aS (bq [(7,d)])) (cX [(7,d)] os'++os0) l [d]:=by
 rcases h with ⟨hn,rfl | rfl,rfl⟩ | ⟨hn,k,rfl,rfl⟩
 ·exact .inl ⟨hn,.inr rfl⟩
 ·exact .inl ⟨hn,.inl rfl⟩
 ·refine .inr ⟨d,List.replicate k cn,by simp,?_,?_⟩
  ·simp[I.aS,bq]
  ·simp only[eO,kr,Z3,Y3,aD,cX,bq,if_true,ai.aS,I.aS]
def gp:cz:=⟨⟨[],[]⟩,⟨[],[]⟩⟩
theorem iK:I.agg [.agg [.aj ⟨#[]⟩,.aj ⟨#[]⟩],.agg [.aj ⟨#[]⟩,.aj ⟨#[]⟩]]=enc gp:=rfl
def nq(r:cz)(l s:List ah)(x:ah):cz×List ah×Int :=
 if x∈l then (r,l,0) else if (gP s x).2≠0 then (gp,[],(gP s x).2) else (⟨⟨r.cq.bD,r.cq.dh++dy (dR 1 l) x⟩,r.copy⟩,l++[x],0)
theorem FO{s:List ah}{x:ah}(h:(gP s x).2=0):bd x=true:=by
 simp only[gP] at h;cases q:bd x
 ·rw[q] at h
  (repeat' split at h) <;>simp_all
 ·rfl
theorem wC:(∀ A n b rest (q:iD),ep A (some 1) n [] b (enc q) rest (some (.agg [.nils 8]))=ao rest (A.aQ n (.box (enc q)))) ∧
  (∀ A n rest (r:cz) (x y:List UInt8),ep A none n [0,1] (enc r) (enc (al.of x)) rest (some (enc (al.of y)))=ao rest (A.aQ n (.box (enc (⟨⟨r.cq.bD,x⟩,r.copy⟩:cz))))) :=
 ⟨fun A n b rest q=>by rw[fC (s:=some 1) (v:=enc q) (old:=.agg [.nils 8]) (eZ _) rfl rfl,fA],
  fun A n rest r x y=>by rw[fC (s:=none) (v:=enc (al.of x)) (old:=enc (al.of y)) (eZ _) rfl rfl];rfl⟩
theorem Fv(r:cz)(h:r.small)(l s:List ah)(hl:l.length≤60)(hok:∀ x∈l,bd x=true)(hsl:s.length≤60)(h95:aR Tryz.prog 95 [enc l] (enc (⟨s⟩:iD)))(x:ah) :
  aR Tryz.prog 88 [enc r,enc l,enc x] (.tuple [enc (nq r l s x).1,enc (nq r l s x).2.1,enc (nq r l s x).2.2]):=by
 refine aR.bK Tryz.func88 HU I8 Kr (t8 rfl) (fun hwf W0 bB E1 =>?_);simp only[yO,C6,bA,Z4,Nat.reduceAdd];clear hwf;have f136:=EY l x (by omega);have f93:=tC l (by omega);have f44:=Fm s x (by omega);simp only[nq];cases q1:decide (x∈l)
 rotate_left
 ·rw[q1] at f136;rw[if_pos (of_decide_eq_true q1)];have R:=y6 @iK (y6 @eG (y6 @bm aC))
  repeat' ((first |refine U.aG (by decide +kernel) rfl fun K hK =>?_|refine .flat _ (f136) rfl ?_|refine .lead _ (f93) ?_|(refine U.l9 (gs:=uS) [] [(3,[3]),(6,[6])] [0,1,2,3,4,5] (by decide +kernel) (dC.of (by simp[jD,cj,Bn,I.only,bI])) fun K hK =>?_;simp only[kl,uS,List.getD_cons_zero,List.getD_cons_succ,R,simprocAttr])|(refine .aE [0,1,2,3,5,6,7,8,10,11,15,27] hK ?_;clear hK K)|(with_reducible refine .done (hK _ ?_);clear hK K)|refine U.of rfl ?_|(with_reducible refine av.aF (fun h =>?_) (fun h =>?_) <;>try simp only[h])) <;>try simp only[aH,R,simprocAttr])
  all_goals clear R
  all_goals rfl
 rw[q1] at f136;rw[if_neg (of_decide_eq_false q1)];by_cases q2:(gP s x).2=0
 rotate_left
 ·have q2':((gP s x).2 != 0)=true:=by simpa using q2
  rw[if_pos q2];generalize gP s x=p at *;have R:=y6 @iK (y6 @q2' (y6 @wC (y6 @gL (y6 @eG (y6 @bm aC)))))
  repeat' ((first |refine U.aG (by decide +kernel) rfl fun K hK =>?_|refine .flat _ (f136) rfl ?_|refine .lead _ (h95) ?_|refine .lead _ (f44) ?_|(refine .aE [0,1,2,3,5,6,7,8,10,11,15,27] hK ?_;clear hK K)|(with_reducible refine .done (hK _ ?_);clear hK K)|refine U.of rfl ?_|(with_reducible refine av.aF (fun h =>?_) (fun h =>?_) <;>try simp only[h])) <;>try simp only[aH,R,simprocAttr])
  all_goals clear R
  all_goals rfl
 have q2':((gP s x).2 != 0)=false:=by simp[q2]
 rw[if_neg (by simp[q2])];have hx:=FO q2;have f137:=EZ l (by omega) hok;have hin:=qn l;have f81:=oL (dR 1 l) hin x hx;have hll:=rY hin hx;have hadd:=eF r.cq.dh (dy (dR 1 l) x) (by have:=h.1.2;omega);generalize gP s x=p at *;have hbs:gz 8 (some [enc x])=some (enc [x]):=oZ 8 x rfl;have R:=y6 @iK (y6 @q2' (y6 @hadd (y6 @wC (y6 @gL (y6 @eG (y6 @bm aC))))))
 repeat' ((first |refine U.aG (by decide +kernel) rfl fun K hK =>?_|refine .flat _ (f136) rfl ?_|refine .lead _ (h95) ?_|refine .lead _ (f44) ?_|refine .flat _ (f137) rfl ?_|refine .lead _ (f81) ?_|(refine .aE [0,1,2,3,5,6,7,8,10,11,15,27] hK ?_;clear hK K)|(with_reducible refine .done (hK _ ?_);clear hK K)|refine U.of rfl ?_|(with_reducible refine av.aF (fun h =>?_) (fun h =>?_) <;>try simp only[h])) <;>try simp only[aH,R,simprocAttr])
 all_goals clear R
 obtain ⟨r',hr'⟩:∃ r':cz,r'=⟨⟨r.cq.bD,r.cq.dh++dy (dR 1 l) x⟩,r.copy⟩:=⟨_,rfl⟩
 rw[←hr'];refine U.sub (bC.rp [3] 3 (x:=.ptr 3 []) (y:=.ref (enc r')) (ts':=[(1,enc l),(3,.ref (enc r')),(5,.ptr 5 []),(6,.ptr 6 [])]) (os':=[(6,.box (enc gp)),(5,.box (enc x))]) rfl ?_ ?_ ?_ ?_ ?_ ?_) ?_
 ·rw[uL];simp[nP,dE,aw,kb,aD,j4,qM]
 ·simp[dO,bW,ai.only,I.only,I.cJ,bI]
 ·simp[cm,je,cj,I.only,bI]
 ·simp[cv,dO,aD]
 ·simp[ct,aI,aD,I.only,bI]
 ·simp[bW,ai.only,bI]
 refine U.sub (bC.rp [5] 5 (x:=.ptr 5 []) (y:=.ref (enc x)) (ts':=[(1,enc l),(3,.ref (enc r')),(5,.ref (enc x)),(6,.ptr 6 [])]) (os':=[(6,.box (enc gp))]) rfl ?_ ?_ ?_ ?_ ?_ ?_) ?_
 ·rw[uL];simp[nP,dE,aw,kb,aD,j4,qM]
 ·simp[dO,bW,ai.only,bI]
 ·simp[cm,je,cj,I.only,bI]
 ·simp[cv,dO,aD]
 ·simp[ct,aI,aD,I.only,bI]
 ·simp[bW,ai.only,bI]
 have R:=y6 @hbs (y6 @fu (y6 @eG (y6 @bm aC)))
 repeat' ((first |refine U.aG (by decide +kernel) rfl fun K hK =>?_|refine .flat _ (8 [0,1,3,4,2,5,6,7,8] [(3,[]),(5,[]),(6,[6])]) rfl ?_|(refine .aE [0,1,2,3,5,6,7,8,10,11,15,27] hK ?_;clear hK K)|(with_reducible refine .done (hK _ ?_);clear hK K)|refine U.of rfl ?_|(with_reducible refine av.aF (fun h =>?_) (fun h =>?_) <;>try simp only[h])) <;>try simp only[aH,R,simprocAttr])
 all_goals clear R
 refine U.l9 (gs:=uT) [] [(3,[]),(5,[]),(6,[6])] [0,1,3,4,2,5,6,7,8] (by decide +kernel) (dC.of (by simp[jD,cj,I.only,bI])) fun K hK =>?_
 try simp only[kl,uT,Z3,zz0,List.getD_cons_zero,List.getD_cons_succ,hbs,aC,aZ,simprocAttr]
 refine .bx [(7,46)] [enc l] (o9 l) (tz l (by omega)) eM.nil ⟨.inl ⟨(il _ _).symm,bI _ _,eZ _⟩,trivial⟩ ?_ ?_
 ·rintro x os' (⟨_,h | h,rfl⟩ | ⟨_,k,rfl,rfl⟩)
  ·subst h;exact dv.nil (fun _=>rfl) (fun h=>by cases h)
  ·subst h;exact dv.nil (fun _=>rfl) (fun h=>by cases h)
  ·exact dv.sh (fun p=>fk p _) (fun h=>by cases h) rfl (fun h=>by cases h) rfl (by decide)
 intro y os' hp;have hg:=UA (d:=46) (os0:=[(6,.box (enc gp))]) hp;have h6:∀ m,m≠46→aD (cX [(7,46)] os'++[(6,ai.box (enc gp))]) m=aD [(6,ai.box (enc gp))] m:=by
  intro m hm;rcases hp with ⟨_,_,rfl⟩ | ⟨_,k,_,rfl⟩
  ·rfl
  ·simp only[eO,cX,Z3,zz0,bq,if_true,Y3,Y6,aD,if_neg hm]
 generalize y.aS (bq [(7,46)])=v at hg ⊢;generalize cX [(7,46)] os'++[(6,ai.box (enc gp))]=os at hg h6 ⊢;have h49:aD os 49=none:=h6 49 (by decide)
 try simp only[fu,aZ,simprocAttr]
 refine bH.pw (default:ah) (ys:=[x]) rfl hg h49 (by simp;omega) (by simp[maxLen];omega) fun v' os'' hg2 hk =>?_;have h66:aD os'' 6=some (.box (enc gp)):=by rw[hk 6 (by decide),h6 6 (by decide)];rfl
 try simp only[h66,eG,aZ,simprocAttr]
 have hf:∀ ts,ba true (aw ts ((6,.box (enc r'))::os'')) v'=some (enc (l++[x])):=fun ts=>rE rfl hg2 fun m hm=>by
  have:m≠6:=by
   simp only[zy0,List.not_mem_nil,or_false] at hm;omega
  simp[aw,aD,this]
 refine .done (hK _ ?_);clear hK K;refine U.ret ?_;simp only[aZ,simprocAttr]
 try simp only[hf,aC,aZ,simprocAttr]
 all_goals rfl
def nr(r:cz)(l s:List ah)(x:ah):cz×List ah×Int:=if dQ r l=false then (gp,[],84) else nq r l s x
theorem w8(r:cz)(h:r.small)(l s:List ah)(hl:l.length≤4000000000000)(hsl:s.length≤60)(h95:dQ r l=true→aR Tryz.prog 95 [enc l] (enc (⟨s⟩:iD)))(x:ah) :
  aR Tryz.prog 35 [enc r,enc l,enc x] (.tuple [enc (nr r l s x).1,enc (nr r l s x).2.1,enc (nr r l s x).2.2]):=by
 refine aR.bK Tryz.func35 Hy IM J6 (t8 rfl) (fun hwf W0 bB E1 =>?_);simp only[yz,CM,bA,Z4,Nat.reduceAdd];clear hwf;have f:=xf r h l hl;simp only[nr];cases q:dQ r l
 ·rw[q] at f;have R:=y6 @iK (y6 @eG (y6 @bm aC))
  repeat' ((first |refine U.aG (by decide +kernel) rfl fun K hK =>?_|refine .flat _ (f) rfl ?_|(refine .aE [0,1,2,3,5,6,7,8,12] hK ?_;clear hK K)|(with_reducible refine .done (hK _ ?_);clear hK K)|refine U.of rfl ?_|(with_reducible refine av.aF (fun h =>?_) (fun h =>?_) <;>try simp only[h])) <;>try simp only[aH,R,simprocAttr])
  all_goals clear R
  all_goals rfl
 rw[q] at f;have hw:er [] l=true:=by simp only[dQ,Z0] at q;exact q.1.1
 have f88:=Fv r h l s (nt hw) (qu hw) hsl (h95 q) x;simp only[Bool.true_eq_false,if_false];generalize nq r l s x=p at *;have R:=y6 @iK (y6 @eG (y6 @bm aC))
 repeat' ((first |refine U.aG (by decide +kernel) rfl fun K hK =>?_|refine .flat _ (f) rfl ?_|refine .lead _ (f88) ?_|(refine .aE [0,1,2,3,5,6,7,8,12] hK ?_;clear hK K)|(with_reducible refine .done (hK _ ?_);clear hK K)|refine U.of rfl ?_|(with_reducible refine av.aF (fun h =>?_) (fun h =>?_) <;>try simp only[h])) <;>try simp only[aH,R,simprocAttr])
 all_goals clear R
 all_goals rfl
end Go.Proofs.YtoffnnjbplgnaaaGreatDoor
namespace Go.Proofs.YtoffnnjbplgnaaaGreatDoor
open Go Go.Abs Go.RowKit
open Go.Abs.Enc (enc)
def gb(p:List Int)(i:Nat)(n:Int):Int:=if p=[] then 0 else sg (p.getD (i%p.length) 0) n
theorem Xs(i n:Nat):(i:Int).tmod (n:Int)=((i%n:Nat):Int):=rfl
theorem tu(p:List Int)(i:Nat)(n:Int)(hn:n≠0)(hi:i≤1000)(hp:p.length≤1000000000000000):aR Tryz.prog 121 [enc p,.int .i64 (i:Int),enc n] (enc (gb p i n)):=by
 refine aR.bK Tryz.func121 GX Ig JB (t8 rfl) (fun hwf W0 bB E1 =>?_);simp only[xT,Ch,bA,Z4,Nat.reduceAdd];clear hwf;simp only[gb];by_cases h:p=[]
 ·have q:((p.length:Int)==0)=true:=by rw[h];rfl
  rw[if_pos h];have R:=y6 @q aC
  repeat' ((first |refine U.aG (by decide +kernel) rfl fun K hK =>?_|(refine .aE [0,1,2,6,9] hK ?_;clear hK K)|(with_reducible refine .done (hK _ ?_);clear hK K)|refine U.of rfl ?_|(with_reducible refine av.aF (fun h =>?_) (fun h =>?_) <;>try simp only[h])) <;>try simp only[aH,R,simprocAttr])
  all_goals clear R
  all_goals rfl
 ·have hpos:0<p.length:=List.length_pos_iff.2 h;have q:((p.length:Int)==0)=false:=by rw[beq_eq_false_iff_ne];omega
  have hnz:¬ (p.length:Int)=0:=by omega
  have hr:=Xs i p.length;have hlt:i%p.length<p.length:=Nat.mod_lt _ hpos;have he:=fun A=>fi (A:=A) 1 hlt rfl;rw[if_neg h];have hg:p.getD (i%p.length) 0=p[i%p.length]:=by simp[Y8,hlt]
  rw[hg];generalize p[i%p.length]=x at *;have R:=y6 @q (y6 @hnz (y6 @hr (y6 @he (y6 @hn aC))))
  repeat' ((first |refine U.aG (by decide +kernel) rfl fun K hK =>?_|(refine .aE [0,1,2,6,9] hK ?_;clear hK K)|(with_reducible refine .done (hK _ ?_);clear hK K)|refine U.of rfl ?_|(with_reducible refine av.aF (fun h =>?_) (fun h =>?_) <;>try simp only[h])) <;>try simp only[aH,R,simprocAttr])
  all_goals clear R
  all_goals rfl
end Go.Proofs.YtoffnnjbplgnaaaGreatDoor
namespace Go.Proofs.YtoffnnjbplgnaaaGreatDoor
open Go Go.Abs
open Go.Abs.Enc (enc)
def tl(u:List UInt8)(p:List Int)(i:Nat):List UInt8:=u.take (gb p i (u.length+1:Nat)).toNat
def qj(w:List UInt8)(p:List Int)(i:Nat):List UInt8:=if gb p (i+1) 2=1∧0<w.length then w.set (gb p (i+2) (w.length:Nat)).toNat 63 else w
def wM(r:cN)(p:List Int)(i:Nat):List UInt8:=r.bD++qj (tl r.dh p i) p i
def lD(r:cN)(p:List Int)(i:Nat):cN:=⟨wM r p i,[]⟩
theorem Eb(w:List UInt8)(p:List Int)(i:Nat):(qj w p i).length=w.length:=by
 rw[qj];split <;>simp
theorem tN{p:List Int}{i:Nat}{n:Nat}(hn:0<n∧n≤4611686018427387904)(hp:∀ x∈p,-9223372036854775808≤x∧x≤9223372036854775807):0≤gb p i (n:Nat)∧gb p i (n:Nat)<n:=by
 rw[gb];by_cases h:p=[]
 ·rw[if_pos h];omega
 ·rw[if_neg h];have hpos:0<p.length:=List.length_pos_iff.2 h;have hlt:i%p.length<p.length:=Nat.mod_lt _ hpos;have hm:p.getD (i%p.length) 0∈p:=by simp only[Y8,Y1 hlt,Option.getD_some];exact List.getElem_mem hlt
  rw[VD (hp _ hm) (by omega)];exact ⟨Int.emod_nonneg _ (by omega),Int.emod_lt_of_pos _ (by omega)⟩
theorem xO:∀ l:List UInt8,mq (l.map enc)=some l
 | []=>rfl
 |b::l=>by
  have h:=xO l;rw[Z3]
  show (match I.int .u8 (b.toNat:Int),mq (l.map enc) with | .int .u8 n,some l=>some (UInt8.ofNat n.toNat::l) | _,_=>none)=_
  rw[h]
  show some (UInt8.ofNat ((b.toNat:Int)).toNat::l)=_
  simp
theorem qN(l:List UInt8):kM (some (l.map enc))=some (enc (al.of l)):=by
 rw[kM,xO];rfl
theorem sZ(A:ab)(t:List UInt8):jS A 1 (enc (al.of t))=some (t.map enc):=rfl
theorem sR(n:Nat):List.replicate n (I.int .u8 0)=(List.replicate n (0:UInt8)).map enc:=by rw[List.map_replicate];rfl
def wz(sz z lo k:Nat):Option (List I)→Option (List I)
 |some fs=>if lo+k≤fs.length∧z=sz then some ((fs.drop lo).take k) else none
 |none=>none
theorem s7(A:ab)(sz n z lo k:Nat)(p:List Nat):jS A sz (.view n p z lo k)=wz sz z lo k (en (dE p (A.o n))):=by
 show cP A sz (.view n p z lo k)=_
 simp only[cP,jy,ft];cases dE p (A.o n) with
 |none=>rfl
 |some c=>cases c <;>rfl
theorem s9(l q:List UInt8){n:Nat}(h:n=l.length):wz 1 1 0 n (some ((l++q).map enc))=some (l.map enc):=by
 subst h;simp only[wz,Z2,List.drop_zero,←List.map_take,List.take_left];rw[if_pos ⟨by simp,trivial⟩]
theorem s8(A:ab)(k n:Nat)(l:List UInt8)(hn:n=l.length)(h:A.o k=some (.box (.agg (l.map enc)))):cP A 1 (.view k [] 1 0 n)=some (l.map enc):=by
 subst hn;have e:=nd (A:=A) (esz:=1) (lo:=0) (k:=l.length) h (by simp);rw[List.drop_zero,List.take_length] at e;exact e
theorem zo{A:ab}{d:Option Nat}{z esz:Nat}{rest:List au}{ys:List I} : j0 A d esz (ao rest) (.c0 z) (some ys)=ao rest (A.aN d (.int .i64 0)):=rfl
theorem X2{n:Nat}{p:List Nat}{sz k:Nat} : iB n p sz 0 k k (some (.int .i64 k)) none none=some (.c0 sz):=by
 simp only[iB,gy];rw[if_pos ⟨by omega,by omega,by omega⟩,if_pos (by omega)]
theorem DZ{A:ab}{n k i:Nat}{xs:List UInt8}(hk:k=xs.length)(hi:i<k)(h:A.o n=some (.box (.agg (xs.map enc)))):iA A 1 (some (.int .i64 i)) none none (.view n [] 1 0 k)=some (.view n [] 1 i (k-i)):=by
 subst hk;rw[wu,h]
 show lA n [] 1 0 xs.length 1 _ none none (some (xs.map enc))=_
 rw[wv,Z2,mb (by omega) (by omega) hi]
theorem D0{A:ab}{n k:Nat}{xs:List UInt8}(hk:k=xs.length)(h:A.o n=some (.box (.agg (xs.map enc)))):iA A 1 (some (.int .i64 k)) none none (.view n [] 1 0 k)=some (.c0 1):=by
 subst hk;rw[wu,h]
 show lA n [] 1 0 xs.length 1 _ none none (some (xs.map enc))=_
 rw[wv,Z2,X2]
theorem qW{A:ab}{d:Option Nat}{n k m:Nat}{rest:List au}{a:List UInt8}(hk:k=a.length+m)(h:A.o n=some (.box (.agg ((List.replicate k (0:UInt8)).map enc)))) :
  j0 A d 1 (ao rest) (.view n [] 1 0 k) (some (a.map enc))=ao rest ((A.aQ n (.box (.agg ((a++List.replicate m (0:UInt8)).map enc)))).aN d (.int .i64 (a.length:Nat))):=by
 subst hk;rw[nJ (c:=a.length) h (by simp) (by omega)];simp
theorem zn{A:ab}{d:Option Nat}{n i m:Nat}{rest:List au}{a b:List UInt8}(hi:i=a.length)(hm:m=b.length)(h:A.o n=some (.box (.agg ((a++List.replicate m (0:UInt8)).map enc)))) :
  j0 A d 1 (ao rest) (.view n [] 1 i m) (some (b.map enc))=ao rest ((A.aQ n (.box (.agg ((a++b).map enc)))).aN d (.int .i64 (b.length:Nat))):=by
 subst hi hm;rw[nJ (c:=b.length) h (by simp) (by omega)];simp
theorem xc(r:cN)(hr:r.small)(p:List Int)(i:Nat)(hi:i≤900)(hp:p.length≤100000000000000)(hpi:∀ x∈p,-9223372036854775808≤x∧x≤9223372036854775807):aR Tryz.prog 75 [enc r,enc p,.int .i64 (i:Int)] (enc (lD r p i)):=by
 obtain ⟨n1,hn1⟩:∃ n1:Nat,gb p i ((r.dh.length+1:Nat):Int)=(n1:Int):=Y9 (tN (by have:=hr.2;omega) hpi).1;have hn1l:n1≤r.dh.length:=by have:=(tN (p:=p) (i:=i) (n:=r.dh.length+1) (by have:=hr.2;omega) hpi).2;omega
 have hd:=hr.1;have hu:=hr.2;have e1:tl r.dh p i=r.dh.take n1:=by rw[tl,hn1];rfl
 have hnl:(r.dh.take n1).length=n1:=by rw[Y0];omega
 rw[lD,wM,e1];refine aR.bK Tryz.func75 HL IZ Ki (t8 rfl) (fun hwf W0 bB E1 =>?_);simp only[c75,CX,bA,Z4,Nat.reduceAdd];clear hwf;have f1:=tu p i ((r.dh.length+1:Nat):Int) (by omega) (by omega) (by omega);have f2:=tu p (i+1) 2 (by omega) (by omega) (by omega);have hss:=qg (al.of r.dh) (j:=n1) (by rw[al.dn];exact hn1l);rw[al.dn] at hss;have hs2:=wg (r.dh.take n1);have hl:=fun t=>mY t;have hw1:IntKind.i64.wrap (((r.dh.length:Nat):Int)+1)=((r.dh.length+1:Nat):Int):=by rw[ea _ (by omega) (by omega)];omega
 have hw2:IntKind.i64.wrap ((i:Int)+1)=((i+1:Nat):Int):=by rw[ea _ (by omega) (by omega)];omega
 have hw3:IntKind.i64.wrap ((i:Int)+2)=((i+2:Nat):Int):=by rw[ea _ (by omega) (by omega)];omega
 rw[hn1] at f1
 replace f2:aR Tryz.prog 121 [enc p,.int .i64 ((i+1:Nat):Int),.int .i64 2] (.int .i64 (gb p (i+1) 2)):=f2
 replace f1:aR Tryz.prog 121 [enc p,.int .i64 (i:Int),.int .i64 ((r.dh.length+1:Nat):Int)] (.int .i64 (n1:Int)):=f1
 obtain ⟨l2,hl2⟩:∃ l2,qj (r.dh.take n1) p i=l2:=⟨_,rfl⟩
 have hl2n:l2.length=n1:=by rw[←hl2,Eb,hnl]
 rw[hl2];rw[qj] at hl2;generalize r.dh.take n1=w at *;have hpi':=hpi;clear e1;have hiv:=trivial;have hat:=trivial;have hst:=trivial;have f3:=f2;rcases Nat.eq_zero_or_pos n1 with h0 | h0
 ·have hw0:l2=w:=by
   rw[if_neg] at hl2
   ·exact hl2.symm
   ·intro h;omega
  subst hw0;have hg:decide ((n1:Int)>0)=false:=decide_eq_false (by omega);cases hb:gb p (i+1) 2==1
  ·generalize gb p (i+1) 2=a2 at *;have hw4:IntKind.i64.wrap ((r.bD.length:Int)+(n1:Int))=((r.bD.length+n1:Nat):Int):=by rw[ea _ (by omega) (by omega)];omega
   have hmk:=fun (A:ab) (rest:List au)=>sf (A:=A) (d:=44) (bytes:=1) (z:=.int .u8 0) (rest:=rest) (n:=r.bD.length+n1) (by omega) (by unfold maxLen;omega);have hcp:=fun (A:ab) (rest:List au)=>qW (A:=A) (d:=some 48) (n:=44) (k:=r.bD.length+n1) (m:=n1) (rest:=rest) (a:=r.bD) rfl;have hcv:=fun (q:List UInt8)=>s9 l2 q (n:=n1) hl2n.symm;have hsb:=fun (A:ab)=>s8 A 44 (r.bD.length+n1) (r.bD++l2) (by simp[hl2n]);have hbs:=qN (r.bD++l2);have hce:=fun (A:ab)=>sZ A r.bD;have hl0:l2=[]:=zy3 (by omega);have hsl:=fun (A:ab)=>D0 (A:=A) (n:=44) (k:=r.bD.length+n1) (xs:=r.bD++List.replicate n1 0) (by simp);have hn:((r.bD.length+n1:Nat):Int)=(r.bD.length:Int):=by omega
   have hrp:r.bD++List.replicate n1 (0:UInt8)=r.bD++l2:=by rw[hl0,h0];rfl
   rw[hn,hrp] at hsl;rw[hrp] at hcp;have R:=y6 @hg (y6 @pH (y6 @s7 (y6 @lU (y6 @sR (y6 @hw1 (y6 @hw2 (y6 @hw3 (y6 @hw4 (y6 @hb (y6 @hnl (y6 @hmk (y6 @hcp (y6 @hcv (y6 @hsb (y6 @hbs (y6 @hce (y6 @hsl (y6 @zo (y6 @jd (y6 @eG (y6 @kO (y6 @hl (y6 @hss (y6 @hs2 (y6 @bm (y6 @r6 aC))))))))))))))))))))))))))
   repeat' ((first |(with_reducible refine .guard (fun hb =>?_) (fun hb =>?_) <;>try simp only[hb])|(refine U.l9 (gs:=kY) [] [] [0,1,2,3,4,5,6,7,8,9,10,11] (by decide +kernel) (dC.of (by simp[jD])) fun K hK =>?_;simp only[kl,kY,List.getD_cons_zero,List.getD_cons_succ,R,simprocAttr])|refine bH.eE rfl fun m =>?_|refine U.aG (by decide +kernel) rfl fun K hK =>?_|refine .flat _ (f1) rfl ?_|refine .flat _ (f2) rfl ?_|(refine .aE [0,1,2,3,6,7,8,29] hK ?_;clear hK K)|(with_reducible refine .done (hK _ ?_);clear hK K)|refine U.of rfl ?_|(with_reducible refine av.aF (fun h =>?_) (fun h =>?_) <;>try simp only[h])) <;>try simp only[aH,R,zz4,simprocAttr])
   all_goals clear R
   all_goals rfl
  ·generalize gb p (i+1) 2=a2 at *;have hw4:IntKind.i64.wrap ((r.bD.length:Int)+(n1:Int))=((r.bD.length+n1:Nat):Int):=by rw[ea _ (by omega) (by omega)];omega
   have hmk:=fun (A:ab) (rest:List au)=>sf (A:=A) (d:=44) (bytes:=1) (z:=.int .u8 0) (rest:=rest) (n:=r.bD.length+n1) (by omega) (by unfold maxLen;omega);have hcp:=fun (A:ab) (rest:List au)=>qW (A:=A) (d:=some 48) (n:=44) (k:=r.bD.length+n1) (m:=n1) (rest:=rest) (a:=r.bD) rfl;have hcv:=fun (q:List UInt8)=>s9 l2 q (n:=n1) hl2n.symm;have hsb:=fun (A:ab)=>s8 A 44 (r.bD.length+n1) (r.bD++l2) (by simp[hl2n]);have hbs:=qN (r.bD++l2);have hce:=fun (A:ab)=>sZ A r.bD;have hl0:l2=[]:=zy3 (by omega);have hsl:=fun (A:ab)=>D0 (A:=A) (n:=44) (k:=r.bD.length+n1) (xs:=r.bD++List.replicate n1 0) (by simp);have hn:((r.bD.length+n1:Nat):Int)=(r.bD.length:Int):=by omega
   have hrp:r.bD++List.replicate n1 (0:UInt8)=r.bD++l2:=by rw[hl0,h0];rfl
   rw[hn,hrp] at hsl;rw[hrp] at hcp;have R:=y6 @hg (y6 @pH (y6 @s7 (y6 @lU (y6 @sR (y6 @hw1 (y6 @hw2 (y6 @hw3 (y6 @hw4 (y6 @hb (y6 @hnl (y6 @hmk (y6 @hcp (y6 @hcv (y6 @hsb (y6 @hbs (y6 @hce (y6 @hsl (y6 @zo (y6 @jd (y6 @eG (y6 @kO (y6 @hl (y6 @hss (y6 @hs2 (y6 @bm (y6 @r6 aC))))))))))))))))))))))))))
   repeat' ((first |(with_reducible refine .guard (fun hb =>?_) (fun hb =>?_) <;>try simp only[hb])|(refine U.l9 (gs:=kY) [] [] [0,1,2,3,4,5,6,7,8,9,10,11] (by decide +kernel) (dC.of (by simp[jD])) fun K hK =>?_;simp only[kl,kY,List.getD_cons_zero,List.getD_cons_succ,R,simprocAttr])|refine bH.eE rfl fun m =>?_|refine U.aG (by decide +kernel) rfl fun K hK =>?_|refine .flat _ (f1) rfl ?_|refine .flat _ (f2) rfl ?_|(refine .aE [0,1,2,3,6,7,8,29] hK ?_;clear hK K)|(with_reducible refine .done (hK _ ?_);clear hK K)|refine U.of rfl ?_|(with_reducible refine av.aF (fun h =>?_) (fun h =>?_) <;>try simp only[h])) <;>try simp only[aH,R,zz4,simprocAttr])
   all_goals clear R
   all_goals rfl
 ·have hg:decide ((n1:Int)>0)=true:=decide_eq_true (by omega);cases hb:gb p (i+1) 2==1
  ·have hw0:l2=w:=by
    rw[if_neg] at hl2
    ·exact hl2.symm
    ·intro h;rw[h.1] at hb;cases hb
   subst hw0;generalize gb p (i+1) 2=a2 at *;have hw4:IntKind.i64.wrap ((r.bD.length:Int)+(n1:Int))=((r.bD.length+n1:Nat):Int):=by rw[ea _ (by omega) (by omega)];omega
   have hmk:=fun (A:ab) (rest:List au)=>sf (A:=A) (d:=44) (bytes:=1) (z:=.int .u8 0) (rest:=rest) (n:=r.bD.length+n1) (by omega) (by unfold maxLen;omega);have hcp:=fun (A:ab) (rest:List au)=>qW (A:=A) (d:=some 48) (n:=44) (k:=r.bD.length+n1) (m:=n1) (rest:=rest) (a:=r.bD) rfl;have hcv:=fun (q:List UInt8)=>s9 l2 q (n:=n1) hl2n.symm;have hsb:=fun (A:ab)=>s8 A 44 (r.bD.length+n1) (r.bD++l2) (by simp[hl2n]);have hbs:=qN (r.bD++l2);have hce:=fun (A:ab)=>sZ A r.bD;have hsl:=fun (A:ab)=>DZ (A:=A) (n:=44) (k:=r.bD.length+n1) (i:=r.bD.length) (xs:=r.bD++List.replicate n1 0) (by simp) (by omega);rw[Nat.add_sub_cancel_left] at hsl;have hcb:=fun (A:ab) (rest:List au)=>zn (A:=A) (d:=some 55) (n:=44) (i:=r.bD.length) (m:=n1) (rest:=rest) (a:=r.bD) (b:=l2) rfl hl2n.symm;have R:=y6 @hg (y6 @hiv (y6 @hat (y6 @hst (y6 @u6 (y6 @pH (y6 @s7 (y6 @lU (y6 @sR (y6 @hw1 (y6 @hw2 (y6 @hw3 (y6 @hw4 (y6 @hb (y6 @hnl (y6 @hmk (y6 @hcp (y6 @hcv (y6 @hsb (y6 @hbs (y6 @hce (y6 @hsl (y6 @hcb (y6 @jd (y6 @eG (y6 @kO (y6 @hl (y6 @hss (y6 @hs2 (y6 @bm (y6 @r6 aC))))))))))))))))))))))))))))))
   repeat' ((first |(with_reducible refine .guard (fun hb =>?_) (fun hb =>?_) <;>try simp only[hb])|(refine U.l9 (gs:=kY) [] [] [0,1,2,3,4,5,6,7,8,9,10,11] (by decide +kernel) (dC.of (by simp[jD])) fun K hK =>?_;simp only[kl,kY,List.getD_cons_zero,List.getD_cons_succ,R,simprocAttr])|refine bH.eE rfl fun m =>?_|refine U.aG (by decide +kernel) rfl fun K hK =>?_|refine .flat _ (f1) rfl ?_|refine .flat _ (f2) rfl ?_|refine .flat _ (f3) rfl ?_|(refine .aE [0,1,2,3,6,7,8,29] hK ?_;clear hK K)|(with_reducible refine .done (hK _ ?_);clear hK K)|refine U.of rfl ?_|(with_reducible refine av.aF (fun h =>?_) (fun h =>?_) <;>try simp only[h])) <;>try simp only[aH,R,zz4,simprocAttr])
   all_goals clear R
   all_goals rfl
  ·obtain ⟨j,hj,hjn⟩:∃ j:Nat,gb p (i+2) (n1:Int)=(j:Int)∧j<n1:=by
    have:=tN (p:=p) (i:=i+2) (n:=n1) (by omega) hpi';obtain ⟨j,hj⟩:=Y9 this.1;exact ⟨j,hj,by omega⟩
   have hw0:w.set j 63=l2:=by
    rw[if_pos ⟨by simpa using hb,by omega⟩,hnl,hj] at hl2;exact hl2
   clear f3 hiv hat hst;have f3:=tu p (i+2) (n1:Int) (by omega) (by omega) (by omega);rw[hj] at f3
   replace f3:aR Tryz.prog 121 [enc p,.int .i64 ((i+2:Nat):Int),.int .i64 (n1:Int)] (.int .i64 (j:Int)):=f3
   have hiv:=fun (fs:List I)=>UO (m:=19) (sz:=1) (lo:=0) (l:=n1) (i:=j) (fs:=fs) hjn;rw[Z4] at hiv;have hat:∀ q:List UInt8,kL j [] (some ((w++q).map enc))=some (enc w[j]):=fun q=>by
    have h2:((w++q).map (enc (α:=UInt8)))[j]?=some (enc w[j]):=by
     rw[zz2,Y5 (by omega),Y1 (by omega)];rfl
    simp only[kL,h2,nB,qM]
   have hst:∀ (A:ab) (q:List UInt8) (u:UInt8) (rest:List au),ep A none 19 [j] (.agg ((w++q).map enc)) (.int .u8 63) rest (some (enc u))=ao rest (A.aQ 19 (.box (.agg ((l2++q).map enc)))):=fun A q u rest=>by
    have:=X8 (A:=A) (n:=19) (i:=j) (xs:=w++q) 63 u (rest:=rest) rfl (by simp;omega);rw[List.set_append_left _ _ (by omega),hw0] at this;exact this
   generalize gb p (i+1) 2=a2 at *;have hw4:IntKind.i64.wrap ((r.bD.length:Int)+(n1:Int))=((r.bD.length+n1:Nat):Int):=by rw[ea _ (by omega) (by omega)];omega
   have hmk:=fun (A:ab) (rest:List au)=>sf (A:=A) (d:=44) (bytes:=1) (z:=.int .u8 0) (rest:=rest) (n:=r.bD.length+n1) (by omega) (by unfold maxLen;omega);have hcp:=fun (A:ab) (rest:List au)=>qW (A:=A) (d:=some 48) (n:=44) (k:=r.bD.length+n1) (m:=n1) (rest:=rest) (a:=r.bD) rfl;have hcv:=fun (q:List UInt8)=>s9 l2 q (n:=n1) hl2n.symm;have hsb:=fun (A:ab)=>s8 A 44 (r.bD.length+n1) (r.bD++l2) (by simp[hl2n]);have hbs:=qN (r.bD++l2);have hce:=fun (A:ab)=>sZ A r.bD;have hsl:=fun (A:ab)=>DZ (A:=A) (n:=44) (k:=r.bD.length+n1) (i:=r.bD.length) (xs:=r.bD++List.replicate n1 0) (by simp) (by omega);rw[Nat.add_sub_cancel_left] at hsl;have hcb:=fun (A:ab) (rest:List au)=>zn (A:=A) (d:=some 55) (n:=44) (i:=r.bD.length) (m:=n1) (rest:=rest) (a:=r.bD) (b:=l2) rfl hl2n.symm;have R:=y6 @hg (y6 @hiv (y6 @hat (y6 @hst (y6 @u6 (y6 @pH (y6 @s7 (y6 @lU (y6 @sR (y6 @hw1 (y6 @hw2 (y6 @hw3 (y6 @hw4 (y6 @hb (y6 @hnl (y6 @hmk (y6 @hcp (y6 @hcv (y6 @hsb (y6 @hbs (y6 @hce (y6 @hsl (y6 @hcb (y6 @jd (y6 @eG (y6 @kO (y6 @hl (y6 @hss (y6 @hs2 (y6 @bm (y6 @r6 aC))))))))))))))))))))))))))))))
   repeat' ((first |(with_reducible refine .guard (fun hb =>?_) (fun hb =>?_) <;>try simp only[hb])|(refine U.l9 (gs:=kY) [] [] [0,1,2,3,4,5,6,7,8,9,10,11] (by decide +kernel) (dC.of (by simp[jD])) fun K hK =>?_;simp only[kl,kY,List.getD_cons_zero,List.getD_cons_succ,R,simprocAttr])|refine bH.eE rfl fun m =>?_|refine U.aG (by decide +kernel) rfl fun K hK =>?_|refine .flat _ (f1) rfl ?_|refine .flat _ (f2) rfl ?_|refine .flat _ (f3) rfl ?_|(refine .aE [0,1,2,3,6,7,8,29] hK ?_;clear hK K)|(with_reducible refine .done (hK _ ?_);clear hK K)|refine U.of rfl ?_|(with_reducible refine av.aF (fun h =>?_) (fun h =>?_) <;>try simp only[h])) <;>try simp only[aH,R,zz4,simprocAttr])
   all_goals clear R
   all_goals rfl
def kE(r:cz)(p:List Int):cz:=⟨lD r.cq p 0,lD r.copy p 3⟩
theorem tw(r:cz)(h:r.small)(p:List Int)(hp:p.length≤100000000000000)(hpi:∀ x∈p,-9223372036854775808≤x∧x≤9223372036854775807):aR Tryz.prog 22 [enc r,enc p] (enc (kE r p)):=by
 refine aR.bK Tryz.func22 Hs IG J0 (t8 rfl) (fun hwf W0 bB E1 =>?_);simp only[yp,CG,bA,Z4];clear hwf;have f1:=xc r.cq h.1 p 0 (by omega) hp hpi;have f2:=xc r.copy h.2 p 3 (by omega) hp hpi
 replace f1:aR Tryz.prog 75 [enc r.cq,enc p,.int .i64 0] (enc (lD r.cq p 0)):=f1
 replace f2:aR Tryz.prog 75 [enc r.copy,enc p,.int .i64 3] (enc (lD r.copy p 3)):=f2
 simp only[kE];generalize lD r.cq p 0=a at *;generalize lD r.copy p 3=b at *;have R:=y6 @kO (y6 @jd (y6 @lL (y6 @uv (y6 @eG aC))))
 repeat' ((first |refine U.aG (by decide +kernel) rfl fun K hK =>?_|refine .flat _ (f1) rfl ?_|refine .flat _ (f2) rfl ?_|(refine .aE [0,1,2,4] hK ?_;clear hK K)|(with_reducible refine .done (hK _ ?_);clear hK K)|refine U.of rfl ?_|(with_reducible refine av.aF (fun h =>?_) (fun h =>?_) <;>try simp only[h])) <;>try simp only[aH,R,simprocAttr])
 all_goals clear R
 all_goals rfl
def iv:ah:=⟨2,0,5,10,12,0,0,[97]⟩
def iG:List UInt8:=[51,55,52,56,51,55,32,50,32,48,32,53,32,49,48,32,49,50,32,48,32,48,32,97,10]
def cM:cz:=⟨⟨[],iG⟩,⟨[],[]⟩⟩
theorem LP:kc 1 iv=(iG,374837,0):=by decide +kernel
theorem LS:kp 1 iG=(iv,374837,0):=by decide +kernel
theorem LV:nr gp [] [] iv=(cM,[iv],0):=by decide +kernel
theorem LQ:(ki (kE cM [])).2=[]:=by decide +kernel
theorem LR:(ki (kE cM [25,0,0])).2=[iv]:=by decide +kernel
theorem LU:(ki (kE cM [25,1,3])).2=[]:=by decide +kernel
theorem LO:ki (o7 (oy cM) false)=(⟨⟨iG,[]⟩,⟨iG,[]⟩⟩,[iv]):=by decide +kernel
theorem ml:iG.length=25:=rfl
theorem FJ:iG.drop 7=[50,32,48,32,53,32,49,48,32,49,50,32,48,32,48,32,97,10]:=rfl
theorem LD:I.agg [.agg [.int .i64 2,.int .i64 0],.int .i64 5,.int .i64 10,.int .i64 12,.agg [.int .i64 0,.int .i64 0],.aj ⟨#[97]⟩]=enc iv:=rfl
theorem wK(p:List Int):(kE cM p).small:=by
 refine ⟨⟨?_,?_⟩,⟨?_,?_⟩⟩ <;>simp[kE,lD,wM,Eb,tl,cM,ml] <;>omega
theorem E5:aR Tryz.prog 14 [] (enc true):=by
 refine aR.bK Tryz.func14 Hd Is JN (t8 rfl) (fun hwf W0 bB E1 =>?_);simp only[yc,Ct,bA];clear hwf;have f29:=Fi 1 iv;rw[LP] at f29;have f31:=Fj 1 iG (by rw[ml];omega);rw[LS] at f31;have f35:=w8 gp ⟨⟨by decide,by decide⟩,⟨by decide,by decide⟩⟩ [] [] (by decide) (by decide) (fun _=>xg) iv;rw[LV] at f35;have h0:cM.small:=by refine ⟨⟨?_,?_⟩,⟨?_,?_⟩⟩ <;>simp[cM,ml]
 have t1:=tw cM h0 [] (by simp) (by simp);have t2:=tw cM h0 [25,0,0] (by simp) (by simp);have t3:=tw cM h0 [25,1,3] (by simp) (by simp);have o1:=qx _ (wK []);have o2:=qx _ (wK [25,0,0]);have o3:=qx _ (wK [25,1,3]);have f20:=Fg cM h0;have f24:=Fh (oy cM) false;have o4:=qx (o7 (oy cM) false) (by refine ⟨⟨?_,?_⟩,⟨?_,?_⟩⟩ <;>simp[oy,o7,cM,cN.all,ml]);rw[LQ] at o1;rw[LR] at o2;rw[LU] at o3;rw[LO] at o4;generalize kE cM []=T1 at *;generalize kE cM [25,0,0]=T2 at *;generalize kE cM [25,1,3]=T3 at *;generalize oy cM=T4 at *;generalize o7 T4 false=T5 at *;generalize (ki T1).1=U1 at *;generalize (ki T2).1=U2 at *;generalize (ki T3).1=U3 at *
 dsimp only at f29 f31 f35 o4
 have hl:lR (enc (al.of iG))=some (.int .i64 25):=by rw[mY,ml];rfl
 have hww:cM.cq.dh=iG:=rfl;have hl2:(((al.of iG).l.length:Nat):Int)=25:=by rw[al.dn,ml];rfl
 have hd1:decide (cM.copy=(⟨[],[]⟩:cN))=true:=rfl;have hw7:IntKind.i64.wrap 7=7:=by decide
 have hl1:(((([iv]:List ah).length:Nat):Int)==1)=true:=rfl;have hn0:(((([]:List ah).length:Nat):Int)==0)=true:=rfl;have hse:bF .eql (enc (al.of [50,32,48,32,53,32,49,48,32,49,50,32,48,32,48,32,97,10])) (.aj ⟨#[50,32,48,32,53,32,49,48,32,49,50,32,48,32,48,32,97,10]⟩)=some (.bool true):=by
  show bF .eql (enc (al.of _)) (enc (al.of [50,32,48,32,53,32,49,48,32,49,50,32,48,32,48,32,97,10]))=_
  rw[jQ];simp
 have hp1:fB [.int .i64 0,.int .i64 0] [(0,.int .i64 2)]=some [.int .i64 2,.int .i64 0]:=rfl;have hp2:fB [.agg [.int .i64 0,.int .i64 0],.int .i64 0,.int .i64 0,.int .i64 0,.agg [.int .i64 0,.int .i64 0],.aj ⟨#[]⟩] [(0,.agg [.int .i64 2,.int .i64 0]),(1,.int .i64 5),(2,.int .i64 10),(3,.int .i64 12),(5,.aj ⟨#[97]⟩)]=some [.agg [.int .i64 2,.int .i64 0],.int .i64 5,.int .i64 10,.int .i64 12,.agg [.int .i64 0,.int .i64 0],.aj ⟨#[97]⟩]:=rfl;have hb2:gz 1 (some [.int .i64 25,.int .i64 0,.int .i64 0])=some (enc ([25,0,0]:List Int)):=rfl;have hb3:gz 1 (some [.int .i64 25,.int .i64 1,.int .i64 3])=some (enc ([25,1,3]:List Int)):=rfl;have hs:=sY (al.of iG) (i:=7) (by rw[al.dn,ml];omega);rw[al.dn,FJ] at hs
 replace hs:ef (.ss true false) [enc (al.of iG),.int .i64 7]=some (enc (al.of [50,32,48,32,53,32,49,48,32,49,50,32,48,32,48,32,97,10])):=hs
 have R:=y6 @hw7 (y6 @hl1 (y6 @hn0 (y6 @hse (y6 @hww (y6 @hl2 (y6 @hd1 (y6 @hl (y6 @hb2 (y6 @hb3 (y6 @hs (y6 @hp1 (y6 @hp2 (y6 @jQ (y6 @LD (y6 @fu (y6 @fD (y6 @uv (y6 @jd (y6 @lL (y6 @eG (y6 @kO (y6 @bm aC))))))))))))))))))))))
 repeat' ((first |(with_reducible refine .guard (fun hb =>?_) (fun hb =>?_) <;>try simp only[hb])|refine U.aG (by decide +kernel) rfl fun K hK =>?_|refine .flat _ (f29) rfl ?_|refine .flat _ (f31) rfl ?_|refine .flat _ (f35) rfl ?_|refine .flat _ (t1) rfl ?_|refine .flat _ (o1) rfl ?_|refine .flat _ (t2) rfl ?_|refine .flat _ (o2) rfl ?_|refine .flat _ (t3) rfl ?_|refine .flat _ (o3) rfl ?_|refine .flat _ (f20) rfl ?_|refine .flat _ (f24) rfl ?_|refine .flat _ (o4) rfl ?_|refine .lead _ (f35) ?_|refine .lead _ (o1) ?_|refine .lead _ (o2) ?_|refine .lead _ (o3) ?_|refine .lead _ (o4) ?_|(refine .aE [0,1,2,3,4,5,6,7,8,9,10,12,14,16,17,18,19,20] hK ?_;clear hK K)|(with_reducible refine .done (hK _ ?_);clear hK K)|refine U.of rfl ?_|(with_reducible refine av.aF (fun h =>?_) (fun h =>?_) <;>try simp only[h])) <;>try simp only[aH,R,eq_self,decide_true,simprocAttr])
 all_goals clear R
 all_goals rfl
end Go.Proofs.YtoffnnjbplgnaaaGreatDoor
namespace Go.Proofs.YtoffnnjbplgnaaaGreatDoor
open Go Go.Abs Go.Shelf Go.RowKit Go.Sort Go.Proofs
open Go.Abs.Enc (enc)
theorem Jx(a b:Item)(W:World):Calls Tryz.prog 140 #[.agg #[.int .i64 a.aO,.int .i64 a.no],.agg #[.int .i64 b.aO,.int .i64 b.no]] W fun e w'=>e=.returned (.int .i64 (gf a b))∧∃ q os',w'=grow (W.drewN q) os':=by
 go_enter Tryz.func140,Tryz.ntmps140
 obtain ⟨c1,hc1⟩:∃ c1,c1=Obj.cells #[Value.int .i64 a.aO,.int .i64 a.no] 48:=⟨_,rfl⟩
 obtain ⟨c2,hc2⟩:∃ c2,c2=Obj.cells #[Value.int .i64 b.aO,.int .i64 b.no] 48:=⟨_,rfl⟩
 go_wp2
 rw[←hc1,←hc2];obtain ⟨W2,hW2⟩:∃ W2,W2=((W.alloc c1).alloc c2):=⟨_,rfl⟩
 have e1:W2.heap[W.heap.size]?=some c1:=by rw[hW2,heap_alloc_old _ _ (by simp),heap_alloc_new]
 have e2:W2.heap[W.heap.size+1]?=some c2:=by
  have:=heap_alloc_new (W.alloc c1) c2;rw[World.size_alloc] at this;rw[hW2];exact this
 have k1:W2.cell? ⟨W.heap.size,0,none⟩=some (.int .i64 a.aO):=by simp[World.cell?,e1,hc1]
 have k2:W2.cell? ⟨W.heap.size,1,none⟩=some (.int .i64 a.no):=by simp[World.cell?,e1,hc1]
 have k3:W2.cell? ⟨W.heap.size+1,0,none⟩=some (.int .i64 b.aO):=by simp[World.cell?,e2,hc2]
 have k4:W2.cell? ⟨W.heap.size+1,1,none⟩=some (.int .i64 b.no):=by simp[World.cell?,e2,hc2]
 rw[←hW2];have d1:W2.drew.cell? ⟨W.heap.size,0,none⟩=some (.int .i64 a.aO):=k1;have d2:W2.drew.cell? ⟨W.heap.size,1,none⟩=some (.int .i64 a.no):=k2;have d3:W2.drew.cell? ⟨W.heap.size+1,0,none⟩=some (.int .i64 b.aO):=k3;have d4:W2.drew.cell? ⟨W.heap.size+1,1,none⟩=some (.int .i64 b.no):=k4;have hgr:∃ os,grow W os=W2:=⟨#[c1,c2],by rw[hW2,alloc_eq_grow,alloc_eq_grow,grow_grow];rfl⟩
 clear hc1 hc2 hW2 e1 e2;generalize W.heap.size=S at *;obtain ⟨r,hr⟩:∃ r,gf a b=r:=⟨_,rfl⟩
 have h160:Calls Tryz.prog 160 #[.slice (some ⟨W2.heap.size,0,none⟩) 2 2] ((W2.drew).alloc (Obj.cells #[.int .i64 (eA a.aO b.aO),.int .i64 (eA a.no b.no)] 3)) fun e w'=>e=.returned (.int .i64 r)∧w'=(W2.drew).alloc (Obj.cells #[.int .i64 (eA a.aO b.aO),.int .i64 (eA a.no b.no)] 3):=by
  rw[←hr];exact WJ _ _ _ W2.heap.size (heap_alloc_new W2.drew _)
 refine wp_region_still_tail 10 (by kernel_rfl) (by kernel_rfl) ?_
 change wpStill _ _ W2.drew _ _ _
 simp only[List.take_succ_cons,List.take_zero,List.drop_succ_cons,List.drop_zero]
 repeat (first | still_step | still_call (Jv _ _ _))
 refine wpStill_nil ?_
 change wpList _ _ _ _ _ W2.drew
 go_wp2_with (go_at_call 160;refine h160.mono ?_;rintro e w' ⟨rfl,rfl⟩)
 go_ret
 refine ⟨by rw[hr];rfl,?_⟩;obtain ⟨os,hos⟩:=hgr;exact ⟨1,os ++ #[Obj.cells #[.int .i64 (eA a.aO b.aO),.int .i64 (eA a.no b.no)] 3],by rw[←hos,alloc_eq_grow,←grow_grow];rfl⟩
theorem UB(W:World)(o1 o2:Obj)(q:Nat)(os:Array Obj):grow (((W.alloc o1).alloc o2).drewN q) os=grow (W.drewN q) ((#[o1] ++ #[o2])++os):=by
 rw[alloc_eq_grow,alloc_eq_grow,grow_grow]
 show grow (grow (W.drewN q) (#[o1] ++ #[o2])) os=_
 rw[grow_grow]
theorem Jr(x y:ah)(W:World):Calls Tryz.prog 142 #[.agg (cH x).toArray,.agg (cH y).toArray] W fun e w'=>e=.returned (.int .i64 (gf x.bg y.bg))∧∃ q os',w'=grow (W.drewN q) os':=by
 have hcon:=fun W'=>Jx x.bg y.bg W';simp only[ah.bg] at hcon ⊢;simp only[cH];generalize gf ⟨x.aO,x.no⟩ ⟨y.aO,y.no⟩=r at hcon ⊢
 go_enter Tryz.func142,Tryz.ntmps142
 go_wp2_with (go_at_call 140;refine (hcon _).mono ?_;rintro e w' ⟨rfl,q,os',rfl⟩)
 go_ret
 exact ⟨rfl,q,_,UB _ _ _ _ _⟩
theorem Ju(aA off size:Nat)(w:World):CmpLays Tryz.prog 142 #[] cH 8 (fun x y=>gf x.bg y.bg) aA off size w:=fun _ _ _ _ x y=>Jr x y _
theorem r4(x y:ah):ltOf (fun x y:ah=>gf x.bg y.bg) x y=dk x y:=by
 show decide (gf x.bg y.bg<0)=_
 rw[zk];rfl
theorem Ye:SWO (ltOf fun x y:ah=>gf x.bg y.bg) where
 irrefl x:=by rw[r4];simp[dk]
 trans x y z h1 h2:=by rw[r4] at *;exact xF h1 h2
 ntrans x y z h1 h2:=by
  rw[r4] at *;simp only[dk,decide_eq_false_iff_not] at *;omega
theorem mr(x:ah):(cH x).length=8:=rfl
theorem Jh(x:ah):∀ v∈cH x,v.oneCell'=true:=by
 intro v hv;simp only[cH,zy0,List.not_mem_nil,or_false] at hv;rcases hv with rfl | rfl | rfl | rfl | rfl | rfl | rfl | rfl <;>rfl
theorem Dk{w:World}{D:aJ}{E:aM} : ∀ {xs:List ah} {cs:List Value},az w D E (xs.map enc) cs→cs=xs.flatMap cH∧∀ x∈xs,ae w D E (enc x) (cH x)
 | [],cs,h=>by
  simp only[zz0,az] at h;subst h;exact ⟨rfl,by simp⟩
 |x::xs,cs,h=>by
  simp only[Z3,az] at h;obtain ⟨c1,c2,rfl,h1,h2⟩:=h;obtain ⟨rfl,h3⟩:=Dk h2;have e:=Dg h1;subst e;refine ⟨rfl,fun y hy =>?_⟩;rcases zy0.1 hy with rfl | hy
  ·exact h1
  ·exact h3 y hy
theorem Dj{w:World}{D:aJ}{E:aM} : ∀ {xs:List ah},(∀ x∈xs,ae w D E (enc x) (cH x))→az w D E (xs.map enc) (xs.flatMap cH)
 | [],_=>rfl
 |x::xs,h=>by
  simp only[Z3,az,List.flatMap_cons];exact ⟨_,_,rfl,h x (by simp),Dj fun y hy=>h y (by simp[hy])⟩
theorem Ad:∀ (l:List ah) (i j:Nat) (hi:i<l.length),j<8→(l.flatMap cH)[i*8+j]?=(cH l[i])[j]?
 |x::l,0,j,_,hj=>by
  rw[List.flatMap_cons,Y5 (by rw[mr];omega)];simp
 |x::l,i+1,j,hi,hj=>by
  rw[List.flatMap_cons,zy4 (by rw[mr];omega),mr,show (i+1)*8+j-8=i*8+j from by omega];rw[Ad l i j (by simpa using hi) hj];simp
theorem ka(l:List ah):(l.flatMap cH).length=l.length*8:=by
 induction l with
 |nil=>rfl
 |cons x l ih=>rw[List.flatMap_cons,Z1,ih,mr,zy1];omega
theorem Ac(l:List ah):(flatK cH 8 l.toArray).toList=l.flatMap cH:=by
 apply List.ext_getElem?;intro t;by_cases ht:t<l.length*8
 ·have h1:=get_flatK cH 8 l.toArray t (by simpa using ht);have hi:t / 8<l.length:=by omega
  have h2:=Ad l (t / 8) (t%8) hi (Nat.mod_lt _ (by decide));rw[show t / 8*8+t%8=t from by omega] at h2;have h3:t<(flatK cH 8 l.toArray).size:=by simpa using ht
  rw[h2,zz1,zy6 h3];rw[getElem!_pos _ t h3] at h1;rw[h1,getElem!_pos l.toArray (t / 8) (by simpa using hi),getElem!_pos _ (t%8) (by rw[mr];omega),Y1 (by rw[mr];omega)];rfl
 ·rw[zz1,Array.getElem?_eq_none (by simp;omega),List.getElem?_eq_none (by rw[ka];omega)]
theorem Xf{xs ys q:List ah}(hl:ys.length=xs.length){cs:Array Value}(hc:cs.toList=(xs++q).flatMap cH):(Sort.putCells id 0 (flatK cH 8 ys.toArray) cs).toList=(ys++q).flatMap cH:=by
 apply List.ext_getElem?;intro k;have hcl:=congrArg List.length hc;rw[ka,Z1,zz5] at hcl;have h1:cs[k]?=((xs++q).flatMap cH)[k]?:=by rw[←hc,zz1]
 rw[zz1,Sort.putCells,Array.getElem?_mapIdx,h1];simp only[size_flatK,List.size_toArray,zy9,true_and,Z4,Nat.sub_zero,List.flatMap_append];by_cases hk:k<ys.length*8
 ·simp only[hk,if_true];rw[Y5 (by rw[ka];omega),Y5 (by rw[ka];omega),Y1 (by rw[ka];omega)];have h2:(flatK cH 8 ys.toArray)[k]?=(ys.flatMap cH)[k]?:=by rw[←Ac,zz1]
  have h3:k<(flatK cH 8 ys.toArray).size:=by simpa using hk
  rw[←h2,zy6 h3];simp only[Z9,id];rw[getElem!_pos _ k h3]
 ·simp only[hk,if_false];rw[zy4 (by rw[ka];omega),zy4 (by rw[ka];omega),ka,ka,hl];cases ((q.flatMap cH)[k-xs.length*8]?) <;>rfl
def ku(n:Nat)(ws:List ah):List (Nat×ai):=[(n,.box (.agg (ws.map enc)))]
def Ed(l q:List ah):bX:=fun r os'=>r=.tuple []∧os'=ku 1000000 (eK l++q)
theorem Xl(x:ah):(enc x:I).flat=true:=rfl
theorem E7(l q:List ah)(hne:l≠[])(hn:l.length≤1000)(hp:l.Pairwise (fun x y=>¬ (x.aO=y.aO∧x.no=y.no))):eL Tryz.prog 141 [.view 1000000 [] 8 0 l.length,.func 142 []] (ku 1000000 (l++q)) (Ed l q):=by
 refine ⟨Hf,fun w D E vs _ hD hO hv =>?_⟩;have ho:=hO.bx 1000000;simp only[ku,aD,if_true] at ho;obtain ⟨b,cs,T,aq,-,hb0,hr,hnD⟩:=ho;have hne2:l++q≠[]:=by intro h;exact hne (List.append_eq_nil_iff.1 h).1
 have hb:=hb0.plain (Ae hne2 rfl);have hEn:∀ n,n≠1000000→E n=none:=fun n hn=>by
  have:=hO.bx n;simpa only[ku,aD,if_neg hn,cS] using this
 simp only[ak] at hv;obtain ⟨v,rest,cs',rfl,hpk,hr',f,rest2,cs2,rfl,hp2,hr2,rfl⟩:=hv;obtain ⟨b',aK,off,l',hE',hoff,hpart,rfl,hl1,hl2,hl3⟩:=hr';rw[aq] at hE';simp only[v6,bu.aB.injEq] at hE';obtain ⟨rfl,rfl⟩:=hE';have hoff':off=0:=by
  have:(some 0:Option Nat)=some off:=by rw[←hoff];rfl
  injection this with this;exact this.symm
 subst hoff';have hp':v=.slice (some ⟨b,0,none⟩) l.length (l'.length-0):=by
  have:[Value.slice (some ⟨b,0+0*8,none⟩) l.length (l'.length-0)]=[v]:=hpk;simpa using this.symm
 subst hp';have hf:f=.func (.func 142) #[] #[]:=by
  simp only[ae] at hr2;obtain ⟨vs2,e2,e3⟩:=hr2;have h3:cs2=[f]:=hp2;rw[e2] at h3;simp only[ak] at e3;subst e3;have:=h3.symm;simp only[Y7,and_true] at this;rw[this];rfl
 subst hf;obtain ⟨hcs,hrg⟩:=Dk (xs:=l++q) hr;have hbs:b<w.heap.size:=hb0.lt;have hfl:=Ac l;have hH:HoldsK cH 8 w b 0 l.toArray:=fun j hj=>by
  have hj':j<l.length*8:=by simpa using hj
  constructor
  ·simp only[World.cell?,hb,Option.isSome_none,Z5,if_false,Z4];rw[←zz1,hcs,List.flatMap_append,Y5 (by rw[ka];exact hj'),←hfl,zz1,zy6 hj,getElem!_pos _ j hj];rfl
  ·simp[World.frozen?,hb]
 have eg:∀ args w,(callFunc 142 args).run Tryz.prog w=.ok (.enter 142 args) w:=enters_of Tryz.func142 (by kernel_rfl) rfl;refine (AnyQ.slices_SortFunc (P:=Tryz.prog) (ρ:=ve) Bb 8 Tryz.isAgg50 Tryz.sizeOf50 cH mr Jh (fun x y=>gf x.bg y.bg) Ye 142 #[] b 0 (l'.length-0) l.toArray w eg (Ju b 0 _ w) hH hbs (by simp;omega)).mono ?_;rintro e w' ⟨rfl,d',n,os,hperm,hsort,rfl⟩;obtain ⟨s,rfl⟩:∃ s:List ah,d'=s.toArray:=⟨d'.toList,by simp⟩
 have hlen:s.length=l.length:=by simpa using hperm.1
 have hps:s.Perm l:=by
  have:=hperm.2.2;simp only[List.size_toArray,Array.toList_extract,List.extract_eq_take_drop,List.drop_zero,Nat.sub_zero] at this;rw[List.take_of_length_le (by omega),List.take_of_length_le (by omega)] at this;exact this
 have hss:s.Pairwise (fun x y=>dk x y=true):=by
  rw[List.pairwise_iff_getElem];intro i j hi hj hij;have h1:=hsort i j (zy9 _) hij (by simp;omega);rw[r4,getElem!_pos _ j (by simpa using hj),getElem!_pos _ i (by simpa using hi)] at h1;have h2:=List.pairwise_iff_getElem.1 ((List.Perm.pairwise_iff (R:=fun x y:ah=>¬ (x.aO=y.aO∧x.no=y.no)) (fun h k=>h ⟨k.1.symm,k.2.symm⟩) hps).2 hp) i j hi hj hij;simp only[List.getElem_toArray] at h1;simp only[dk,decide_eq_false_iff_not,decide_eq_true_eq] at h1 ⊢;omega
 have hst:=X3 hp hps hss;subst hst;have hsz8:(flatK cH 8 (eK l).toArray).size=(eK l).length*8:=by simp
 have hb1:(putRowK cH 8 (Sort.ahead w n) b 0 (eK l).toArray).heap[b]?=some (.cells (putCells id 0 (flatK cH 8 (eK l).toArray) cs) T (0,0)):=by
  simp[putRowK,putRow,mapBlock,Sort.ahead,Array.getElem?_modify,hb,onCells]
 have hother:∀ k,k<w.heap.size→k≠b→(sortWorldK cH 8 w b 0 n (eK l).toArray os).heap[k]?=w.heap[k]?:=fun k hk hkb=>by
  rw[sortWorldK,heap_grow_old _ _ (by simpa[putRowK,putRow,mapBlock,Sort.ahead] using hk)];simp[putRowK,putRow,mapBlock,Sort.ahead,Array.getElem?_modify,Ne.symm hkb]
 have hb2:(sortWorldK cH 8 w b 0 n (eK l).toArray os).heap[b]?=some (.cells (putCells id 0 (flatK cH 8 (eK l).toArray) cs) T (0,0)):=by
  rw[sortWorldK,heap_grow_old _ _ (by simpa[putRowK,putRow,mapBlock,Sort.ahead] using hbs)];exact hb1
 have hsz:w.heap.size≤(sortWorldK cH 8 w b 0 n (eK l).toArray os).heap.size:=by simp[sortWorldK,putRowK,putRow,mapBlock,Sort.ahead]
 have hw1:(sortWorldK cH 8 w b 0 n (eK l).toArray os).os=w.os:=rfl;have hw2:(sortWorldK cH 8 w b 0 n (eK l).toArray os).tape=w.tape:=rfl;have hw3:(sortWorldK cH 8 w b 0 n (eK l).toArray os).output=w.output:=rfl;revert hother hb2 hsz hw1 hw2 hw3;generalize sortWorldK cH 8 w b 0 n (eK l).toArray os=w2;intro hother hb2 hsz hw1 hw2 hw3;have hmem:∀ x∈eK l++q,ae w2 D E (enc x) (cH x):=fun x hx=>ae.flat _ _ (Xl x) (hrg x (by
  rcases zz7.1 hx with h | h
  ·exact List.mem_append_left _ (hps.mem_iff.1 h)
  ·exact List.mem_append_right _ h))
 refine ⟨.tuple #[],D,E,.tuple [],ku 1000000 (eK l++q),rfl,⟨rfl,rfl⟩,⟨[],rfl,rfl⟩,⟨fun m =>?_,hO.cu⟩,⟨hw1,hw2,hw3,hsz,fun k hk =>?_⟩,fun _ _ h=>h,fun b0 o h=>zy7 (hD b0 o h) hsz,fun _ _ h _ _=>h,fun m e h _=>⟨e,h,bu.e8.refl e⟩,⟨fun b0 o u hd hc =>?_,fun b0 es ck hd hc =>?_⟩⟩
 ·by_cases hm:m=1000000
  ·subst hm;simp only[ku,aD,if_true];refine ⟨b,_,T,?_,.inr ⟨1000000,_,aq,rfl⟩,.BB hb2,?_,hnD⟩
   ·rw[aq]
    congr 2
    show bM.eC (I.cE _)=bM.eC (I.cE _)
    rw[wo (xs:=l++q) (ys:=eK l++q) (by rw[Z1,Z1,hlen])]
   ·show az w2 D E _ _
    rw[Xf hlen hcs];exact Dj hmem
  ·simp only[ku,aD,if_neg hm,cS];exact hEn m hm
 ·by_cases hk2:k<w.heap.size
  ·exact hother k hk2 fun e=>hk (.inr ⟨1000000,_,aq,by rw[e];rfl⟩)
  ·exact absurd (.inl (Nat.le_of_not_lt hk2)) hk
 ·have hne:b0≠b:=fun e=>hnD o (e▸hd);simp only[World.cell?,hother b0 (hD b0 o hd) hne] at hc ⊢;exact hc
 ·have hne:b0≠b:=fun e=>hnD 0 (e▸hd);rw[hother b0 (hD b0 0 hd) hne];exact hc
end Go.Proofs.YtoffnnjbplgnaaaGreatDoor
namespace Go.Proofs.YtoffnnjbplgnaaaGreatDoor
open Go Go.Abs
open Go.Abs.Enc (enc)
def j8(a:Item):List ah→Nat→Int
 | [],_=>-1
 |r::l,i=>if r.bg=a then (i:Int) else j8 a l (i+1)
theorem FB(l:List ah)(a:Item)(hl:l.length≤4000000000000):aR Tryz.prog 96 [enc l,enc a] (enc (j8 a l 0)):=by
 refine aR.bK Tryz.func96 H0 Je Ky (t8 rfl) (fun hwf W0 bB E1 =>?_);simp only[yU,Dc,bA,Z4];clear hwf;have R:=aC
 repeat' ((first |refine U.aG (by decide +kernel) rfl fun K hK =>?_|(refine .aE [0,1,3,4,5,9,18] hK ?_;clear hK K)|(with_reducible refine .done (hK _ ?_);clear hK K)|refine U.of rfl ?_|(with_reducible refine av.aF (fun h =>?_) (fun h =>?_) <;>try simp only[h])) <;>try simp only[aH,R,simprocAttr])
 all_goals clear R
 refine U.loop (fun i:Nat=>aw [(0,enc l),(3,.ptr 3 []),(5,.int .i64 i)] [(3,.box (enc a))]) (fun i=>i≤l.length∧j8 a l 0=j8 a (l.drop i) i) (fun i=>l.length-i) 0 ⟨zy9 _,by simp⟩ ?_ ?_
 ·refine bC.cO ?_ ?_ ?_ ?_ <;>simp[cm,cv,ct,bW,aI,cj,dX,I.only,ai.only,bI]
  all_goals rfl
 rintro i ⟨hi,heq⟩;rw[heq];by_cases hlt:i<l.length
 ·have hlc:=fj hlt;have he:=fun A=>fi (A:=A) 8 hlt rfl;have hw:=eP (i:=i) (by omega);have hd:=List.drop_eq_getElem_cons hlt;rw[hd,j8] at heq ⊢;generalize l[i]=r at *;by_cases q:r.bg=a
  ·rw[if_pos q];have q1:decide (r.bg=a)=true:=decide_eq_true q;have R:=y6 @hlc (y6 @he (y6 @hw (y6 @q1 aC)))
   repeat' ((first |refine U.aG (by decide +kernel) rfl fun K hK =>?_|(refine .aE [0,1,3,4,5,9,18] hK ?_;clear hK K)|(with_reducible refine .done (hK _ ?_);clear hK K)|refine U.of rfl ?_|(with_reducible refine av.aF (fun h =>?_) (fun h =>?_) <;>try simp only[h])) <;>try simp only[aH,R,simprocAttr])
   all_goals clear R
   all_goals rfl
  ·rw[if_neg q] at heq ⊢;have q1:decide (r.bg=a)=false:=decide_eq_false q;have R:=y6 @hlc (y6 @he (y6 @hw (y6 @q1 aC)))
   repeat' ((first |refine U.aG (by decide +kernel) rfl fun K hK =>?_|(refine .aE [0,1,3,4,5,9,18] hK ?_;clear hK K)|(with_reducible refine .done (hK _ ?_);clear hK K)|refine U.of rfl ?_|(with_reducible refine av.aF (fun h =>?_) (fun h =>?_) <;>try simp only[h])) <;>try simp only[aH,R,simprocAttr])
   all_goals clear R
   refine ⟨i+1,⟨by omega,rfl⟩,by omega,?_⟩;clear hd heq;refine bC.cO ?_ ?_ ?_ ?_ <;>simp[cm,cv,ct,bW,aI,cj,dX,I.only,ai.only,bI]
   all_goals rfl
 ·have hlc:=fH hlt;rw[List.drop_eq_nil_of_le (by omega),j8];have R:=y6 @hlc aC
  repeat' ((first |refine U.aG (by decide +kernel) rfl fun K hK =>?_|(refine .aE [0,1,3,4,5,9,18] hK ?_;clear hK K)|(with_reducible refine .done (hK _ ?_);clear hK K)|refine U.of rfl ?_|(with_reducible refine av.aF (fun h =>?_) (fun h =>?_) <;>try simp only[h])) <;>try simp only[aH,R,simprocAttr])
  all_goals clear R
  all_goals rfl
theorem z8{a:Item} : ∀ {l:List ah} {i:Nat} {r:ah},l.find? (fun r=>decide (r.bg=a))=some r→∃ k,k<l.length∧j8 a l i=((i+k:Nat):Int)∧l[k]?=some r
 | [],_,_,h=>by simp at h
 |q::l,i,r,h=>by
  rw[j8];by_cases e:q.bg=a
  ·rw[List.find?_cons_of_pos (by simpa using e)] at h;cases h;exact ⟨0,by simp,by rw[if_pos e];simp,rfl⟩
  ·rw[List.find?_cons_of_neg (by simpa using e)] at h;obtain ⟨k,h1,h2,h3⟩:=z8 (i:=i+1) h;exact ⟨k+1,by simpa using h1,by rw[if_neg e,h2];congr 1;omega,h3⟩
theorem z7{a:Item} : ∀ {l:List ah} {i:Nat},l.find? (fun r=>decide (r.bg=a))=none→j8 a l i=-1
 | [],_,_=>rfl
 |q::l,i,h=>by
  rw[j8];by_cases e:q.bg=a
  ·rw[List.find?_cons_of_pos (by simpa using e)] at h;cases h
  ·rw[List.find?_cons_of_neg (by simpa using e)] at h;rw[if_neg e];exact z7 h
theorem DV(x r:ah):hE x r=decide (r.bg=x.bg):=by
 simp only[hE,ah.bg,Item.mk.injEq]
theorem Fw(w:List ah)(x:ah)(hl:w.length≤4000000000000)(hin:nV w):aR Tryz.prog 89 [enc w,enc x] (.tuple [enc (iY bd w x 80 82 83 2).1,enc (iY bd w x 80 82 83 2).2]):=by
 refine aR.bK Tryz.func89 HV I9 Ks (t8 rfl) (fun hwf W0 bB E1 =>?_);simp only[yP,C7,bA,Z4];clear hwf;have f34:=w7 x;have f96:=FB w x.bg hl;simp only[iY];cases q1:bd x
 ·rw[show iH x=80 by simp[iH,q1]] at f34;simp only[if_true];have R:=aC
  repeat' ((first |(with_reducible refine .guard (fun hb =>?_) (fun hb =>?_) <;>try simp only[hb])|refine U.aG (by decide +kernel) rfl fun K hK =>?_|refine .flat _ (f34) rfl ?_|(refine .aE [0,1,3,4,5,6,9,23,25,35,38] hK ?_;clear hK K)|(with_reducible refine .done (hK _ ?_);clear hK K)|refine U.of rfl ?_|(with_reducible refine av.aF (fun h =>?_) (fun h =>?_) <;>try simp only[h])) <;>try simp only[aH,R,simprocAttr])
  all_goals clear R
  all_goals rfl
 rw[show iH x=0 by simp[iH,q1]] at f34;simp only[Bool.true_eq_false,if_false];have e:(hE x)=fun r=>decide (r.bg=x.bg):=funext fun r=>DV x r;rw[e];cases q2:w.find? (fun r=>decide (r.bg=x.bg)) with
 |some r =>
  obtain ⟨k,hk,h1,h2⟩:=z8 (i:=0) q2;rw[Z4] at h1;have he:=fun A=>fi (A:=A) 8 hk rfl;have hr:w[k]=r:=by rw[Y1 hk] at h2;exact Option.some.inj h2
  rw[hr] at he;obtain ⟨m1,hm1⟩:∃ m1:Int,m1=(k:Int):=⟨_,rfl⟩
  rw[h1,←hm1] at f96;simp only[←hm1] at he;have hge:decide (m1≥0)=true:=decide_eq_true (by omega);clear h1 hm1;simp only;by_cases q3:r=x
  ·have q3':decide (r=x)=true:=decide_eq_true q3;rw[if_pos q3];have R:=y6 @hge (y6 @he (y6 @q3' aC))
   repeat' ((first |(with_reducible refine .guard (fun hb =>?_) (fun hb =>?_) <;>try simp only[hb])|refine U.aG (by decide +kernel) rfl fun K hK =>?_|refine .flat _ (f34) rfl ?_|refine .flat _ (f96) rfl ?_|(refine .aE [0,1,3,4,5,6,9,23,25,35,38] hK ?_;clear hK K)|(with_reducible refine .done (hK _ ?_);clear hK K)|refine U.of rfl ?_|(with_reducible refine av.aF (fun h =>?_) (fun h =>?_) <;>try simp only[h])) <;>try simp only[aH,R,simprocAttr])
   all_goals clear R
   all_goals rfl
  ·have q3':decide (r=x)=false:=decide_eq_false q3;rw[if_neg q3];have R:=y6 @hge (y6 @he (y6 @q3' aC))
   repeat' ((first |(with_reducible refine .guard (fun hb =>?_) (fun hb =>?_) <;>try simp only[hb])|refine U.aG (by decide +kernel) rfl fun K hK =>?_|refine .flat _ (f34) rfl ?_|refine .flat _ (f96) rfl ?_|(refine .aE [0,1,3,4,5,6,9,23,25,35,38] hK ?_;clear hK K)|(with_reducible refine .done (hK _ ?_);clear hK K)|refine U.of rfl ?_|(with_reducible refine av.aF (fun h =>?_) (fun h =>?_) <;>try simp only[h])) <;>try simp only[aH,R,simprocAttr])
   all_goals clear R
   all_goals rfl
 |none =>
  obtain ⟨m1,hm1⟩:∃ m1:Int,m1=-1:=⟨_,rfl⟩
  rw[z7 q2,←hm1] at f96;have hge:decide (m1≥0)=false:=by rw[hm1];rfl
  have f102:=wR w hl hin;have hix:=rQ w (kg q1);simp only;by_cases q3:x.no>(dm w x.aO:Int)
  ·have q3':decide (x.no>(dm w x.aO:Int))=true:=decide_eq_true q3;rw[if_pos q3];have R:=y6 @hge (y6 @hix (y6 @q3' (y6 @iR aC)))
   repeat' ((first |(with_reducible refine .guard (fun hb =>?_) (fun hb =>?_) <;>try simp only[hb])|refine U.aG (by decide +kernel) rfl fun K hK =>?_|refine .flat _ (f34) rfl ?_|refine .flat _ (f96) rfl ?_|refine .lead _ (f102) ?_|(refine .aE [0,1,3,4,5,6,9,23,25,35,38] hK ?_;clear hK K)|(with_reducible refine .done (hK _ ?_);clear hK K)|refine U.of rfl ?_|(with_reducible refine av.aF (fun h =>?_) (fun h =>?_) <;>try simp only[h])) <;>try simp only[aH,R,simprocAttr])
   all_goals clear R
   all_goals rfl
  ·have q3':decide (x.no>(dm w x.aO:Int))=false:=decide_eq_false q3;rw[if_neg q3];by_cases q4:w.length=60
   ·have q4':((w.length:Int)==60)=true:=by rw[beq_iff_eq];omega
    rw[if_pos q4];have R:=y6 @hge (y6 @hix (y6 @q3' (y6 @q4' (y6 @iR aC))))
    repeat' ((first |(with_reducible refine .guard (fun hb =>?_) (fun hb =>?_) <;>try simp only[hb])|refine U.aG (by decide +kernel) rfl fun K hK =>?_|refine .flat _ (f34) rfl ?_|refine .flat _ (f96) rfl ?_|refine .lead _ (f102) ?_|(refine .aE [0,1,3,4,5,6,9,23,25,35,38] hK ?_;clear hK K)|(with_reducible refine .done (hK _ ?_);clear hK K)|refine U.of rfl ?_|(with_reducible refine av.aF (fun h =>?_) (fun h =>?_) <;>try simp only[h])) <;>try simp only[aH,R,simprocAttr])
    all_goals clear R
    all_goals rfl
   ·have q4':((w.length:Int)==60)=false:=by rw[beq_eq_false_iff_ne];omega
    rw[if_neg q4];have R:=y6 @hge (y6 @hix (y6 @q3' (y6 @q4' (y6 @iR aC))))
    repeat' ((first |(with_reducible refine .guard (fun hb =>?_) (fun hb =>?_) <;>try simp only[hb])|refine U.aG (by decide +kernel) rfl fun K hK =>?_|refine .flat _ (f34) rfl ?_|refine .flat _ (f96) rfl ?_|refine .lead _ (f102) ?_|(refine .aE [0,1,3,4,5,6,9,23,25,35,38] hK ?_;clear hK K)|(with_reducible refine .done (hK _ ?_);clear hK K)|refine U.of rfl ?_|(with_reducible refine av.aF (fun h =>?_) (fun h =>?_) <;>try simp only[h])) <;>try simp only[aH,R,simprocAttr])
    all_goals clear R
    all_goals rfl
def tV(l:List ah):Bool:=decide (l.length≤60)&&eR (fun out r=>bd r&&lC out r) [] l
theorem GN(l:List ah):kQ l=tV l:=by
 rw[kQ,tV,Bool.and_comm]
 congr 1
 rw[Bool.eq_iff_iff,oP,oP];constructor
 ·rintro ⟨h1,h2⟩;exact ⟨h1,by rw[←xJ fun r hr=>vC (h1 r hr)];exact h2⟩
 ·rintro ⟨h1,h2⟩;exact ⟨h1,by rw[xJ fun r hr=>vC (h1 r hr)];exact h2⟩
theorem FA(l:List ah)(hl:l.length≤900)(hp:l.Pairwise (fun x y=>¬ (x.aO=y.aO∧x.no=y.no))):aR Tryz.prog 95 [enc l] (enc (⟨eK l⟩:iD)):=by
 by_cases hn0:l=[]
 ·subst hn0;exact xg
 refine aR.bK Tryz.func95 y9 zf zq (t8 rfl) (fun hwf W0 bB E1 =>?_);simp only[tZ,vP,bA];clear hwf;have hsl:(eK l).length=l.length:=(oA hp).1.length_eq;have R:=y6 @gL aC
 repeat' ((first |refine U.aG (by decide +kernel) rfl fun K hK =>?_|(refine .aE [0,2,3] hK ?_;clear hK K)|(with_reducible refine .done (hK _ ?_);clear hK K)|refine U.of rfl ?_|(with_reducible refine av.aF (fun h =>?_) (fun h =>?_) <;>try simp only[h])) <;>try simp only[aH,R,simprocAttr])
 all_goals clear R
 refine .bx false [(7,64)] [] [enc l] (o9 l) rfl (tz l (by omega)) eM.nil ⟨.inl ⟨(il _ _).symm,bI _ _,eZ _⟩,trivial⟩ ?_ ?_
 ·rintro x os' (⟨h,_⟩ | ⟨_,k,rfl,rfl⟩)
  ·exact absurd h hn0
  ·exact dv.sh (fun p=>fk p _) (fun h=>by cases h) rfl (fun h=>by cases h) rfl (by decide)
 rintro x os' (⟨h,_⟩ | ⟨hn,k,rfl,rfl⟩)
 ·exact absurd h hn0
 try simp only[eO,kq,kr,Y3,Y6,aZ,simprocAttr]
 refine .done (hK _ ?_);clear hK K;refine .dI (by decide +kernel) fun K hK =>?_;simp only[Az,aZ,simprocAttr];refine .bx false [(1000000,64)] (ku 1000000 (l++List.replicate k cn)) [.view 1000000 [] 8 0 l.length,.func 142 []] (Ed l (List.replicate k cn)) rfl (E7 l _ hn0 (by omega) hp) ⟨?_,?_⟩ ⟨.inl ⟨?_,?_,rfl⟩,.inl ⟨rfl,rfl,rfl⟩,trivial⟩ ?_ ?_
 ·intro n x h;simp only[ku,aD] at h;split at h
  ·rename_i hn';subst hn';simp only[v6] at h;subst h;exact ⟨by simp only[kq,kr,aZ,simprocAttr],fk _ _,rfl⟩
  ·cases h
 ·intro a b ha hb _;rw[Go.Abs.fI.1 ha,Go.Abs.fI.1 hb]
 ·try simp only[kq,simprocAttr]
 ·exact Go.Abs.fI.2 rfl
 ·rintro x os' ⟨rfl,rfl⟩;exact dv.BQ (fun p=>fk p _) (fun h=>by cases h) rfl (fun h=>by cases h)
 rintro x os' ⟨rfl,rfl⟩
 try simp only[ku,kq,kr,Y3,Y6,aZ,simprocAttr]
 refine .done (hK _ ?_);clear hK K;have hf:j7 8 0 l.length (some ((eK l++List.replicate k cn).map enc))=some (enc (eK l)):=by
  rw[pj (α:=ah) (sz:=8) rfl,←hsl,wJ]
 have R:=y6 @hf (y6 @gL aC)
 repeat' ((first |refine U.aG (by decide +kernel) rfl fun K hK =>?_|(refine .aE [0,2,3] hK ?_;clear hK K)|(with_reducible refine .done (hK _ ?_);clear hK K)|refine U.of rfl ?_|(with_reducible refine av.aF (fun h =>?_) (fun h =>?_) <;>try simp only[h])) <;>try simp only[aH,R,simprocAttr])
 all_goals clear R
 all_goals rfl
theorem w9(r:cz)(h:r.small)(l:List ah)(hl:l.length≤4000000000000):aR Tryz.prog 38 [enc r,enc l] (enc (if dQ r l then (0:Int) else 84)):=by
 refine aR.bK Tryz.func38 HB IQ J9 (t8 rfl) (fun hwf W0 bB E1 =>?_);simp only[yB,CP,bA,Z4];clear hwf;have f91:=Fx l (by omega);have a1:=eF r.cq.bD r.cq.dh (by have:=h.1.1;have:=h.1.2;omega);have a2:=eF r.copy.bD r.copy.dh (by have:=h.2.1;have:=h.2.2;omega);rw[show r.cq.bD++r.cq.dh=r.cq.all from rfl] at a1;rw[show r.copy.bD++r.copy.dh=r.copy.all from rfl] at a2;cases q1:er [] l
 ·rw[q1] at f91;rw[show dQ r l=false by simp only[dQ,q1,Bool.false_and]];have R:=y6 @bm aC
  repeat' ((first |(with_reducible refine .guard (fun hb =>?_) (fun hb =>?_) <;>try simp only[hb])|refine U.aG (by decide +kernel) rfl fun K hK =>?_|refine .flat _ (f91) rfl ?_|(refine .aE [0,1,2,4,5,20,24,39] hK ?_;clear hK K)|(with_reducible refine .done (hK _ ?_);clear hK K)|refine U.of rfl ?_|(with_reducible refine av.aF (fun h =>?_) (fun h =>?_) <;>try simp only[h])) <;>try simp only[aH,R,simprocAttr])
  all_goals clear R
  all_goals rfl
 rw[q1] at f91;have hok:=qu q1;have hln:=nt q1;have f90:=tx l (by omega) hok;have hpre:=fun i=>tx (l.take i) (by rw[Y0];omega) fun x hx=>hok x (zy8 hx);cases q2:decide (r.cq.all=dZ 1 l)
 ·rw[show dQ r l=false by simp only[dQ,q1,q2,Bool.and_false,Bool.false_and]];have R:=y6 @a1 (y6 @q2 (y6 @gK (y6 @bm aC)))
  repeat' ((first |(with_reducible refine .guard (fun hb =>?_) (fun hb =>?_) <;>try simp only[hb])|refine U.aG (by decide +kernel) rfl fun K hK =>?_|refine .flat _ (f91) rfl ?_|refine .flat _ (f90) rfl ?_|(refine .aE [0,1,2,4,5,20,24,39] hK ?_;clear hK K)|(with_reducible refine .done (hK _ ?_);clear hK K)|refine U.of rfl ?_|(with_reducible refine av.aF (fun h =>?_) (fun h =>?_) <;>try simp only[h])) <;>try simp only[aH,R,simprocAttr])
  all_goals clear R
  all_goals rfl
 have R:=y6 @a1 (y6 @q2 (y6 @gK (y6 @bm aC)))
 repeat' ((first |(with_reducible refine .guard (fun hb =>?_) (fun hb =>?_) <;>try simp only[hb])|refine U.aG (by decide +kernel) rfl fun K hK =>?_|refine .flat _ (f91) rfl ?_|refine .flat _ (f90) rfl ?_|(refine .aE [0,1,2,4,5,20,24,39] hK ?_;clear hK K)|(with_reducible refine .done (hK _ ?_);clear hK K)|refine U.of rfl ?_|(with_reducible refine av.aF (fun h =>?_) (fun h =>?_) <;>try simp only[h])) <;>try simp only[aH,R,simprocAttr])
 all_goals clear R
 refine U.loop (fun i:Nat=>aw [(1,enc l),(2,.ptr 2 []),(5,.int .i64 i)] [(2,.box (enc r))]) (fun i=>i≤l.length+1∧∀ k,k<i→decide (r.copy.all=dZ 1 (l.take k))=false) (fun i=>l.length+1-i) 0 ⟨zy9 _,fun k hk=>by omega⟩ ?_ ?_
 ·refine bC.cO ?_ ?_ ?_ ?_ <;>simp[cm,cv,ct,bW,aI,cj,dX,I.only,ai.only,bI]
  all_goals rfl
 rintro i ⟨hi,hk⟩;by_cases hlt:i<l.length+1
 ·have hlc:decide ((i:Int)≤(l.length:Int))=true:=decide_eq_true (by omega);have hw:=eP (i:=i) (by omega);have hsl:=fun A=>D5 (A:=A) (l:=l) (i:=i) (by omega);have hfv:=fun aB A=>D6 (i:=i) l aB A;have f90':=hpre i;cases q3:decide (r.copy.all=dZ 1 (l.take i))
  ·have R:=y6 @hlc (y6 @hw (y6 @a2 (y6 @hsl (y6 @hfv (y6 @q3 (y6 @jQ (y6 @bm aC)))))))
   repeat' ((first |(with_reducible refine .guard (fun hb =>?_) (fun hb =>?_) <;>try simp only[hb])|refine U.aG (by decide +kernel) rfl fun K hK =>?_|refine .flat _ (f90') rfl ?_|(refine .aE [0,1,2,4,5,20,24,39] hK ?_;clear hK K)|(with_reducible refine .done (hK _ ?_);clear hK K)|refine U.of rfl ?_|(with_reducible refine av.aF (fun h =>?_) (fun h =>?_) <;>try simp only[h])) <;>try simp only[aH,R,zz4,simprocAttr])
   all_goals clear R
   refine ⟨i+1,⟨by omega,fun k hk2 =>?_⟩,by omega,?_⟩
   ·by_cases e:k=i
    ·rw[e];exact q3
    ·exact hk k (by omega)
   ·clear hk;refine bC.cO ?_ ?_ ?_ ?_ <;>simp[cm,cv,ct,bW,aI,cj,dX,I.only,ai.only,bI]
    all_goals rfl
  ·rw[show dQ r l=true by simp only[dQ,q1,q2,Bool.and_self,Bool.true_and];exact xr hlt hk q3];have R:=y6 @hlc (y6 @hw (y6 @a2 (y6 @hsl (y6 @hfv (y6 @q3 (y6 @jQ (y6 @bm aC)))))))
   repeat' ((first |(with_reducible refine .guard (fun hb =>?_) (fun hb =>?_) <;>try simp only[hb])|refine U.aG (by decide +kernel) rfl fun K hK =>?_|refine .flat _ (f90') rfl ?_|(refine .aE [0,1,2,4,5,20,24,39] hK ?_;clear hK K)|(with_reducible refine .done (hK _ ?_);clear hK K)|refine U.of rfl ?_|(with_reducible refine av.aF (fun h =>?_) (fun h =>?_) <;>try simp only[h])) <;>try simp only[aH,R,zz4,simprocAttr])
   all_goals clear R
   all_goals rfl
 ·have hlc:decide ((i:Int)≤(l.length:Int))=false:=decide_eq_false (by omega);rw[show dQ r l=false by simp only[dQ,q1,q2,Bool.and_self,Bool.true_and];exact xq fun k hk2=>hk k (by omega)];have R:=y6 @hlc aC
  repeat' ((first |(with_reducible refine .guard (fun hb =>?_) (fun hb =>?_) <;>try simp only[hb])|refine U.aG (by decide +kernel) rfl fun K hK =>?_|(refine .aE [0,1,2,4,5,20,24,39] hK ?_;clear hK K)|(with_reducible refine .done (hK _ ?_);clear hK K)|refine U.of rfl ?_|(with_reducible refine av.aF (fun h =>?_) (fun h =>?_) <;>try simp only[h])) <;>try simp only[aH,R,simprocAttr])
  all_goals clear R
  all_goals rfl
def lE(r:cz)(l:List ah)(x:ah):cz×List ah×Int :=
 if dQ r l=false then (gp,[],84) else if (iY bd l x 80 82 83 2).2≠0 then (gp,[],(iY bd l x 80 82 83 2).2)
 else if (iY bd l x 80 82 83 2).1=false then (r,l,0) else (⟨⟨r.cq.bD,r.cq.dh++dy (dR 1 l) x⟩,r.copy⟩,l++[x],0)
theorem Fk(r:cz)(h:r.small)(l:List ah)(hl:l.length≤4000000000000)(x:ah):aR Tryz.prog 36 [enc r,enc l,enc x] (.tuple [enc (lE r l x).1,enc (lE r l x).2.1,enc (lE r l x).2.2]):=by
 refine aR.bK Tryz.func36 Hz IN J7 (t8 rfl) (fun hwf W0 bB E1 =>?_);simp only[yA,CN,bA,Z4,Nat.reduceAdd];clear hwf;have f38:=w9 r h l hl;rw[lE];cases q1:dQ r l
 ·rw[q1] at f38;rw[if_pos rfl];have R:=y6 @iK (y6 @eG (y6 @bm aC))
  repeat' ((first |refine U.aG (by decide +kernel) rfl fun K hK =>?_|refine .flat _ (f38) rfl ?_|(refine .aE [0,1,2,3,5,6,7,8,9,10,11,15,24,30] hK ?_;clear hK K)|(with_reducible refine .done (hK _ ?_);clear hK K)|refine U.of rfl ?_|(with_reducible refine av.aF (fun h =>?_) (fun h =>?_) <;>try simp only[h])) <;>try simp only[aH,R,simprocAttr])
  all_goals clear R
  all_goals rfl
 rw[q1] at f38;have hw:er [] l=true:=by simp only[dQ,Z0] at q1;exact q1.1.1
 have hall:r.cq.all=dZ 1 l:=by simp only[dQ,Z0,decide_eq_true_eq] at q1;exact q1.1.2
 have hok:=qu hw;have hln:=nt hw;have f89:=Fw l x (by omega) (fun r hr=>kg (hok r hr));rw[if_neg (by decide)];have hx:(iY bd l x 80 82 83 2).2=0→(iY bd l x 80 82 83 2).1=true→bd x=true:=fun _ h1=>by
  cases q:bd x
  ·rw[iY,if_pos q] at h1;cases h1
  ·rfl
 generalize iY bd l x 80 82 83 2=p at *;obtain ⟨b,e⟩:=p;simp only at f89 hx ⊢;by_cases q2:e=0
 rotate_left
 ·have q2':(e != 0)=true:=by simpa using q2
  rw[if_pos q2];have R:=y6 @q2' (y6 @iK (y6 @eG (y6 @bm aC)))
  repeat' ((first |refine U.aG (by decide +kernel) rfl fun K hK =>?_|refine .flat _ (f38) rfl ?_|refine .lead _ (f89) ?_|(refine .aE [0,1,2,3,5,6,7,8,9,10,11,15,24,30] hK ?_;clear hK K)|(with_reducible refine .done (hK _ ?_);clear hK K)|refine U.of rfl ?_|(with_reducible refine av.aF (fun h =>?_) (fun h =>?_) <;>try simp only[h])) <;>try simp only[aH,R,simprocAttr])
  all_goals clear R
  all_goals rfl
 have q2':(e != 0)=false:=by simp[q2]
 rw[if_neg (by simp[q2])];cases b
 ·rw[if_pos rfl];have R:=y6 @q2' (y6 @iK (y6 @fu (y6 @gr (y6 @eG (y6 @bm aC)))))
  repeat' ((first |refine U.aG (by decide +kernel) rfl fun K hK =>?_|refine .flat _ (f38) rfl ?_|refine .lead _ (f89) ?_|(refine .aE [0,1,2,3,5,6,7,8,9,10,11,15,24,30] hK ?_;clear hK K)|(with_reducible refine .done (hK _ ?_);clear hK K)|refine U.of rfl ?_|(with_reducible refine av.aF (fun h =>?_) (fun h =>?_) <;>try simp only[h])) <;>try simp only[aH,R,simprocAttr])
  all_goals clear R
  refine aX.pw (bytes:=72) (default:ah) (ys:=l) rfl (AI _ []) rfl (by rw[zz8];omega) (by rw[zz8];simp only[maxLen];omega) fun v os hg hk =>?_;rw[Y6] at hg;have h3:aD os 3=some (.box (enc r)):=by rw[hk 3 (by decide)];rfl
  have h6:aD os 6=some (.box (enc gp)):=by rw[hk 6 (by decide)];rfl
  have h5:aD os 5=some (.box (enc x)):=by rw[hk 5 (by decide)];rfl
  have hf:∀ ts z,ba true (aw ts ((6,z)::os)) v=some (enc l):=fun ts z=>rE rfl hg fun m hm=>by
   have:m≠6:=by
    simp only[zy0,List.not_mem_nil,or_false] at hm;omega
   simp[aw,aD,this]
  try simp only[aZ,simprocAttr]
  refine .done (hK _ ?_);clear hK K;have R:=y6 @h3 (y6 @h5 (y6 @h6 (y6 @hf (y6 @iK (y6 @eG (y6 @bm aC))))))
  repeat' ((first |refine U.aG (by decide +kernel) rfl fun K hK =>?_|(refine .aE [0,1,2,3,5,6,7,8,9,10,11,15,24,30] hK ?_;clear hK K)|(with_reducible refine .done (hK _ ?_);clear hK K)|refine U.of rfl ?_|(with_reducible refine av.aF (fun h =>?_) (fun h =>?_) <;>try simp only[h])) <;>try simp only[aH,R,simprocAttr])
  all_goals clear R
  all_goals rfl
 ·rw[if_neg (by decide)];have hxk:=hx q2 rfl;have hin:=qn l;have hts:=(tf l x 1).1;have hok2:∀ y∈l++[x],bd y=true:=fun y hy=>by
   rcases zz7.1 hy with h1 | h1
   ·exact hok y h1
   ·rw[zy2.1 h1];exact hxk
  have f90:=tx (l++[x]) (by simp;omega) hok2;have hdr:(dZ 1 (l++[x])).drop r.cq.bD.length=r.cq.dh++dy (dR 1 l) x:=by
   rw[hts,←hall,cN.all,Z8,List.drop_left]
  have hss:=sY (al.of (dZ 1 (l++[x]))) (i:=r.cq.bD.length) (by rw[al.dn,hts,←hall,cN.all];simp only[Z1];omega);rw[al.dn,hdr] at hss;have hbs:gz 8 (some [enc x])=some (enc [x]):=oZ 8 x rfl;have R:=y6 @q2' (y6 @iK (y6 @fu (y6 @gr (y6 @eG (y6 @bm aC)))))
  repeat' ((first |refine U.aG (by decide +kernel) rfl fun K hK =>?_|refine .flat _ (f38) rfl ?_|refine .lead _ (f89) ?_|(refine .aE [0,1,2,3,5,6,7,8,9,10,11,15,24,30] hK ?_;clear hK K)|(with_reducible refine .done (hK _ ?_);clear hK K)|refine U.of rfl ?_|(with_reducible refine av.aF (fun h =>?_) (fun h =>?_) <;>try simp only[h])) <;>try simp only[aH,R,simprocAttr])
  all_goals clear R
  refine aX.pw (bytes:=72) (default:ah) (ys:=l) rfl (AI _ []) rfl (by rw[zz8];omega) (by rw[zz8];simp only[maxLen];omega) fun v os hg hk =>?_;rw[Y6] at hg;have h3:aD os 3=some (.box (enc r)):=by rw[hk 3 (by decide)];rfl
  have h6:aD os 6=some (.box (enc gp)):=by rw[hk 6 (by decide)];rfl
  have h5:aD os 5=some (.box (enc x)):=by rw[hk 5 (by decide)];rfl
  have h34:aD os 34=none:=by rw[hk 34 (by decide)];rfl
  try simp only[aZ,simprocAttr]
  refine .done (hK _ ?_);clear hK K;have R:=y6 @h3 (y6 @h5 (y6 @h6 (y6 @hbs (y6 @iK (y6 @fu (y6 @eG (y6 @bm aC)))))))
  repeat' ((first |refine U.aG (by decide +kernel) rfl fun K hK =>?_|(refine .aE [0,1,2,3,5,6,7,8,9,10,11,15,24,30] hK ?_;clear hK K)|(with_reducible refine .done (hK _ ?_);clear hK K)|refine U.of rfl ?_|(with_reducible refine av.aF (fun h =>?_) (fun h =>?_) <;>try simp only[h])) <;>try simp only[aH,R,simprocAttr])
  all_goals clear R
  refine aX.pw (bytes:=72) (default:ah) (ys:=[x]) rfl hg h34 (by rw[List.length_singleton];omega) (by rw[List.length_singleton];simp only[maxLen];omega) fun v2 os2 hg2 hk2 =>?_;have g3:aD os2 3=some (.box (enc r)):=by rw[hk2 3 (by decide)];exact h3
  have g6:aD os2 6=some (.box (enc gp)):=by rw[hk2 6 (by decide)];exact h6
  have hm6:∀ m∈[34,29],m≠6∧m≠3:=by decide
  have hf0:∀ ts,ba true (aw ts os2) v2=some (enc (l++[x])):=fun ts=>rE rfl hg2 fun m hm=>rfl;have hf:∀ ts z y,ba true (aw ts ((6,z)::(3,y)::os2)) v2=some (enc (l++[x])):=fun ts z y=>rE rfl hg2 fun m hm=>by
   have:=hm6 m hm;simp[aw,aD,this]
  have hsw:∀ A rest,ep A none 3 [0,1] (enc r) (enc (al.of (r.cq.dh++dy (dR 1 l) x))) rest (some (enc (al.of r.cq.dh)))=ao rest (A.aQ 3 (.box (enc (⟨⟨r.cq.bD,r.cq.dh++dy (dR 1 l) x⟩,r.copy⟩:cz)))):=fun A rest=>wC.2 A 3 rest r _ _
  try simp only[aZ,simprocAttr]
  refine .done (hK _ ?_);clear hK K;have R:=y6 @g3 (y6 @g6 (y6 @hf0 (y6 @hf (y6 @hss (y6 @hsw (y6 @mY (y6 @iK (y6 @eG (y6 @bm aC)))))))))
  repeat' ((first |refine U.aG (by decide +kernel) rfl fun K hK =>?_|refine .flat _ (f90) rfl ?_|(refine .aE [0,1,2,3,5,6,7,8,9,10,11,15,24,30] hK ?_;clear hK K)|(with_reducible refine .done (hK _ ?_);clear hK K)|refine U.of rfl ?_|(with_reducible refine av.aF (fun h =>?_) (fun h =>?_) <;>try simp only[h])) <;>try simp only[aH,R,simprocAttr])
  all_goals clear R
  all_goals rfl
theorem X5{l s:List ah}(hw:er [] l=true)(p:s.Perm l)(hs:lH s):kQ s=true:=by
 have hW:=(oF l []).1 hw;obtain ⟨h1,h2⟩:=X4 hW p hs;rw[GN,tV,Z0,decide_eq_true_eq,oP];exact ⟨h2,fun r hr=>qu hw r (p.mem_iff.1 hr),h1⟩
theorem AL(s:List ah)(x:ah):iM s x.bg=s.any (hE x):=by
 rw[iM];congr 1;funext r;rw[DV]
theorem FN{l s:List ah}(hw:er [] l=true)(p:s.Perm l)(hs:lH s){x:ah}(hx:x∉l):(gP s x).2=(lJ bd l s x 80 82 83 2).2∧((gP s x).2=0→(lJ bd l s x 80 82 83 2).1=true):=by
 have hb:=X5 hw p hs;simp only[gP,lJ,hb,Bool.true_eq_false,if_false,if_neg hx,AL];cases q1:bd x
 ·simp
 simp only[Bool.true_eq_false,if_false];cases q2:s.any (hE x)
 ·simp only[Z5,if_false];by_cases q3:(dm s x.aO:Int)<x.no
  ·simp[q3]
  ·by_cases q4:s.length=60
   ·simp[q3,q4]
   ·simp[q3,q4]
 ·have hne:s.getD (fb s x.bg) default≠x:=fun e=>by
   have hh:iM s x.bg=true:=by rw[AL,q2]
   obtain ⟨h1,_⟩:=(u2 hs x.bg).1 hh;have:s.getD (fb s x.bg) default∈s:=by
    simp only[Y8,Y1 h1,Option.getD_some];exact List.getElem_mem h1
   rw[e] at this;exact hx (p.mem_iff.1 this)
  simp only[if_true,if_neg hne];simp
theorem FQ{l s:List ah}{x:ah}(hx:x∈l):lJ bd l s x 80 82 83 2=(false,0):=by rw[lJ,if_pos hx]
theorem Yu(r:cz){l s:List ah}(p:dQ r l=true→s.Perm l)(hs:dQ r l=true→lH s)(x:ah):nr r l s x=lE r l x:=by
 rw[nr,lE];cases q:dQ r l
 ·rw[if_pos rfl,if_pos rfl]
 rw[if_neg (by decide),if_neg (by decide)];have hw:er [] l=true:=by simp only[dQ,Z0] at q;exact q.1.1
 have hp:=p q;have hss:=hs q;have he:=FR ((oF l []).1 hw) hp x 80 82 83 2;rw[←he,nq];by_cases hx:x∈l
 ·rw[if_pos hx,FQ hx,if_neg (by simp),if_pos rfl]
 ·rw[if_neg hx];obtain ⟨h1,h2⟩:=FN hw hp hss hx;rw[h1];by_cases h0:(lJ bd l s x 80 82 83 2).2=0
  ·rw[if_neg (by simp[h0]),if_neg (by simp[h0]),if_neg (by rw[h2 (by rw[h1,h0])];decide)]
  ·rw[if_pos h0,if_pos h0]
theorem tm{l:List ah}(h:er [] l=true):l.Pairwise (fun x y=>¬ (x.aO=y.aO∧x.no=y.no)):=by
 have:=eH.inj gN.nil ((oF l []).1 h) List.Pairwise.nil;simpa using this
theorem mw{r:cz}{l:List ah}(q:dQ r l=true):er [] l=true:=by simp only[dQ,Z0] at q;exact q.1.1
def ta(r:cz)(l:List ah):List ah:=if dQ r l=true then eK l else []
theorem wA{r:cz}{l:List ah}(q:dQ r l=true):ta r l=eK l:=by rw[ta,if_pos q]
theorem Yt(r:cz)(l:List ah)(x:ah):(lE r l x).2.1.length≤61:=by
 rw[lE];cases q:dQ r l
 ·rw[if_pos rfl];simp
 rw[if_neg (by decide)];have:=nt (mw q);split
 ·simp
 ·split
  ·simp only;omega
  ·simp only[Z1,zy1,zz8];omega
theorem Fp(r:cz)(h:r.small)(l:List ah)(hl:l.length≤4000000000000)(x:ah):aR Tryz.prog 7 [enc r,enc l,enc x] (enc true):=by
 refine aR.bK Tryz.func7 HE IU Kc (t8 rfl) (fun hwf W0 bB E1 =>?_);simp only[qR,CS,bA,Z4,Nat.reduceAdd];clear hwf;have f35:=w8 r h l (ta r l) hl (by
  rw[ta];split
  ·rename_i q;rw[(oA (tm (mw q))).1.length_eq];exact nt (mw q)
  ·simp) (fun q=>by
  rw[wA q];exact FA l (by have:=nt (mw q);omega) (tm (mw q))) x
 rw[Yu r (fun q=>by rw[wA q];exact (oA (tm (mw q))).1) (fun q=>by rw[wA q];exact (oA (tm (mw q))).2) x] at f35;have f36:=Fk r h l hl x;have f37:=Fl r h l hl;have f38:=w9 r h l hl;have hm:=Yt r l x;have hbq:∀ a:Int,(a==a)=true:=fun a=>by simp
 generalize lE r l x=q at *;generalize (if dQ r l=true then (0:Int) else 84)=c at *;have f17:=Fc q.2.1 q.2.1 (by omega);rw[decide_eq_true rfl] at f17;have R:=y6 @hbq (y6 @uv (y6 @jd (y6 @lL (y6 @iK (y6 @eG aC)))))
 repeat' ((first |(with_reducible refine .guard (fun hb =>?_) (fun hb =>?_) <;>try simp only[hb])|refine U.aG (by decide +kernel) rfl fun K hK =>?_|refine .flat _ (E5) rfl ?_|refine .lead _ (f35) ?_|refine .lead _ (f36) ?_|refine .flat _ (f17) rfl ?_|refine .flat _ (f37) rfl ?_|refine .flat _ (f38) rfl ?_|(refine .aE [0,1,2,3,5,6,7,8,9,10,11,12,13,14] hK ?_;clear hK K)|(with_reducible refine .done (hK _ ?_);clear hK K)|refine U.of rfl ?_|(with_reducible refine av.aF (fun h =>?_) (fun h =>?_) <;>try simp only[h])) <;>try simp only[aH,R,eq_self,decide_true,simprocAttr])
 all_goals clear R
 all_goals rfl
end Go.Proofs.YtoffnnjbplgnaaaGreatDoor
