/-
  A part of the proof that the law RollJoins returns true for every input; five variables of Go's library start as the text lays them (the card ties them); conditions: none beyond the statement's own. (part 5 of 6)
-/
import Derived.ChangeArms
import Derived.Test.YtoffnnjbplgnaaaGreatDoorRows
import Derived.Test.YtoffnnjbplgnaaaGreatDoorCards
import Derived.Test.YtoffnnjbplgnaaaGreatDoorTie
import Derived.LaidMore
import Derived.MakeChecks
import Derived.Lib.LaidTab
import Derived.Lib.LaidU8
import Derived.HandedShaped
import Derived.Shelf.Vars
import Derived.Shelf.SlSortCmp.WholeK
import Derived.Shelf.SlSortCmp.NoneTotal
import Derived.Shelf.Small.Wraps
import Derived.WalkKit
import Derived.Lib.RowBridge
import Derived.Lib.SortBridge
import Derived.StillTailTactics
import Derived.Test.YtoffnnjbplgnaaaGreatDoorNed
set_option linter.unusedSimpArgs false
set_option linter.unusedVariables false
set_option maxHeartbeats 16000000
set_option maxRecDepth 100000
namespace Go.Proofs.YtoffnnjbplgnaaaGreatDoor
open Go Go.Abs
open Go.Abs.Enc (enc)
def dh.small(r:dh):Prop:=r.bT.length≤140737488351232∧r.ev.length≤140737488351232
def db.small(r:db):Prop:=r.dn.small∧r.copy.small
def dh.all(r:dh):List UInt8:=r.bT++r.ev
theorem dh.qT{r:dh}(h:r.small):r.all.length≤281474976710656:=by
 have:=h.1;have:=h.2;rw[dh.all,Z1];omega
theorem jH:I.agg [.ak ⟨#[]⟩,.ak ⟨#[]⟩]=enc (⟨[],[]⟩:dh):=rfl
theorem Ab:I.agg [.agg [.ak ⟨#[]⟩,.ak ⟨#[]⟩],.agg [.ak ⟨#[]⟩,.ak ⟨#[]⟩]]=enc (⟨⟨[],[]⟩,⟨[],[]⟩⟩:db):=rfl
theorem mB:I.agg [enc (⟨[],[]⟩:dh),enc (⟨[],[]⟩:dh)]=enc (⟨⟨[],[]⟩,⟨[],[]⟩⟩:db):=rfl
theorem gl:(∀ A n b rest (q r:dh),eO A (some 2) n [] b (enc q) rest (some (enc r))=av rest (A.aS n (.box (enc q))))∧(∀ A n b rest (q r:db),eO A (some 4) n [] b (enc q) rest (some (enc r))=av rest (A.aS n (.box (enc q)))) ∧
  (∀ A n rest (q r:dh) (s:db),eO A (some 2) n [0] (enc s) (enc q) rest (some (enc r))=av rest (A.aS n (.box (enc (⟨q,s.copy⟩:db)))))∧(∀ A n rest (q r:dh) (s:db),eO A (some 2) n [1] (enc s) (enc q) rest (some (enc r))=av rest (A.aS n (.box (enc (⟨s.dn,q⟩:db))))) :=
 ⟨fun A n b rest q r=>by rw[fK (e9 _) (by rw[iy];rfl) ((eK _).trans (eK _).symm),fI],
  fun A n b rest q r=>by rw[fK (e9 _) (by rw[iy];rfl) ((eK _).trans (eK _).symm),fI],
  fun A n rest q r s=>by rw[fK (e9 _) (by rw[iy];rfl) ((eK _).trans (eK _).symm)];rfl,
  fun A n rest q r s=>by rw[fK (e9 _) (by rw[iy];rfl) ((eK _).trans (eK _).symm)];rfl⟩
theorem kV:(∀ x:List UInt8,fJ [.ak ⟨#[]⟩,.ak ⟨#[]⟩] [(0,enc (ay.of x))]=some [enc (ay.of x),enc (ay.of [])])∧(∀ x:List UInt8,I.agg [enc (ay.of x),enc (ay.of [])]=enc (⟨x,[]⟩:dh)) ∧
  (∀ p q:dh,fJ [.agg [.ak ⟨#[]⟩,.ak ⟨#[]⟩],.agg [.ak ⟨#[]⟩,.ak ⟨#[]⟩]] [(0,enc p),(1,enc q)]=some [enc p,enc q])∧(∀ p q:dh,I.agg [enc p,enc q]=enc (⟨p,q⟩:db)) ∧
  (∀ p q:dh,fJ [enc (⟨[],[]⟩:dh),enc (⟨[],[]⟩:dh)] [(0,enc p),(1,enc q)]=some [enc p,enc q]) :=
 ⟨fun _=>rfl,fun _=>rfl,fun _ _=>rfl,fun _ _=>rfl,fun _ _=>rfl⟩
theorem oV(r:dh)(h:r.small):aQ Tryz.prog 73 [enc r] (enc (ay.of r.all)):=by
 refine aQ.bO Tryz.func73 Ih Jx KV (t8 rfl) (fun hwf W0 bE E1 =>?_);simp only[y5,Dw,bD];clear hwf;have ha:=eW r.bT r.ev (by have:=h.1;have:=h.2;omega);have R:=y6 @ha (y6 @bu aw)
 repeat' ((first |refine U.aC (by decide +kernel) rfl fun K hK =>?_|(refine .aA [0,1,2] hK ?_;clear hK K)|(with_reducible refine .done (hK _ ?_);clear hK K)|refine U.of rfl ?_|(with_reducible refine aj.aB (fun h =>?_) (fun h =>?_) <;>try simp only[h])) <;>try simp only[aD,R,simprocAttr])
 all_goals clear R
 all_goals rfl
def oL(r:db):db:=⟨⟨r.dn.all,[]⟩,⟨r.dn.all,[]⟩⟩
theorem FP(r:db)(h:r.small):aQ Tryz.prog 20 [enc r] (enc (oL r)):=by
 refine aQ.bO Tryz.func20 HX Jg KD (t8 rfl) (fun hwf W0 bE E1 =>?_);simp only[c20,Dd,bD];clear hwf;have f:=oV r.dn h.1;have R:=y6 @kV (y6 @jH (y6 @mB (y6 @gl (y6 @bu aw))))
 repeat' ((first |refine U.aC (by decide +kernel) rfl fun K hK =>?_|refine .flat _ (f) rfl ?_|(refine .aA [0,1,2,3] hK ?_;clear hK K)|(with_reducible refine .done (hK _ ?_);clear hK K)|refine U.of rfl ?_|(with_reducible refine aj.aB (fun h =>?_) (fun h =>?_) <;>try simp only[h])) <;>try simp only[aD,R,simprocAttr])
 all_goals clear R
 all_goals rfl
def pn(r:db)(copy:Bool):db:=if copy then ⟨r.dn,⟨[],[]⟩⟩ else ⟨⟨[],[]⟩,r.copy⟩
theorem FQ(r:db)(b:Bool):aQ Tryz.prog 24 [enc r,enc b] (enc (pn r b)):=by
 refine aQ.bO Tryz.func24 HZ Ji KF (t8 rfl) (fun hwf W0 bE E1 =>?_);simp only[yM,Df,bD,Z5];clear hwf;cases b
 ·have R:=y6 @jH (y6 @mB (y6 @gl (y6 @bu aw)))
  repeat' ((first |refine U.aC (by decide +kernel) rfl fun K hK =>?_|(refine .aA [0,1,2,4,5] hK ?_;clear hK K)|(with_reducible refine .done (hK _ ?_);clear hK K)|refine U.of rfl ?_|(with_reducible refine aj.aB (fun h =>?_) (fun h =>?_) <;>try simp only[h])) <;>try simp only[aD,R,simprocAttr])
  all_goals clear R
  all_goals rfl
 ·have R:=y6 @jH (y6 @mB (y6 @gl (y6 @bu aw)))
  repeat' ((first |refine U.aC (by decide +kernel) rfl fun K hK =>?_|(refine .aA [0,1,2,4,5] hK ?_;clear hK K)|(with_reducible refine .done (hK _ ?_);clear hK K)|refine U.of rfl ?_|(with_reducible refine aj.aB (fun h =>?_) (fun h =>?_) <;>try simp only[h])) <;>try simp only[aD,R,simprocAttr])
  all_goals clear R
  all_goals rfl
def kv(r:db):db×List ah:=(⟨⟨(sK bm dC r.dn.all r.copy.all).2,[]⟩,⟨(sK bm dC r.dn.all r.copy.all).2,[]⟩⟩,(sK bm dC r.dn.all r.copy.all).1)
theorem ED(t:List UInt8):(jx bm dC t).2.length≤t.length:=by rw[jx];simp;omega
theorem qH(r:db)(h:r.small):aQ Tryz.prog 18 [enc r] (.tuple [enc (kv r).1,enc (kv r).2]):=by
 refine aQ.bO Tryz.func18 HV Je KB (t8 rfl) (fun hwf W0 bE E1 =>?_);simp only[yJ,Db,bD];clear hwf;have f1:=oV r.dn h.1;have f2:=oV r.copy h.2;have g1:=xh r.dn.all (dh.qT h.1);have g2:=xh r.copy.all (dh.qT h.2);have l1:=ED r.dn.all;have l2:=ED r.copy.all;have:=dh.qT h.1;have:=dh.qT h.2;have h74:=fun (x:List UInt8) (hx:x.length≤281474976710656)=>F2 (ay.of x) (by rw[ay.dI];exact hx);simp only[kv,sK];generalize jx bm dC r.dn.all=p at *;generalize jx bm dC r.copy.all=q at *;by_cases hlt:p.1.length<q.1.length
 ·have hc:decide ((q.1.length:Int)>(p.1.length:Int))=true:=decide_eq_true (by omega);have h74':=h74 q.2 (by omega);simp only[if_pos hlt];have R:=y6 @hc (y6 @kV (y6 @jH (y6 @mB (y6 @gl (y6 @bu aw)))))
  repeat' ((first |refine U.aC (by decide +kernel) rfl fun K hK =>?_|refine .flat _ (f1) rfl ?_|refine .lead _ (g1) ?_|refine .flat _ (f2) rfl ?_|refine .lead _ (g2) ?_|refine .flat _ (h74') rfl ?_|(refine .aA [0,1,2,3,4,5,6,7,8,27] hK ?_;clear hK K)|(with_reducible refine .done (hK _ ?_);clear hK K)|refine U.of rfl ?_|(with_reducible refine aj.aB (fun h =>?_) (fun h =>?_) <;>try simp only[h])) <;>try simp only[aD,R,simprocAttr])
  all_goals clear R
  all_goals rfl
 ·have hc:decide ((q.1.length:Int)>(p.1.length:Int))=false:=decide_eq_false (by omega);have h74':=h74 p.2 (by omega);simp only[if_neg hlt];have R:=y6 @hc (y6 @kV (y6 @jH (y6 @mB (y6 @gl (y6 @bu aw)))))
  repeat' ((first |refine U.aC (by decide +kernel) rfl fun K hK =>?_|refine .flat _ (f1) rfl ?_|refine .lead _ (g1) ?_|refine .flat _ (f2) rfl ?_|refine .lead _ (g2) ?_|refine .flat _ (h74') rfl ?_|(refine .aA [0,1,2,3,4,5,6,7,8,27] hK ?_;clear hK K)|(with_reducible refine .done (hK _ ?_);clear hK K)|refine U.of rfl ?_|(with_reducible refine aj.aB (fun h =>?_) (fun h =>?_) <;>try simp only[h])) <;>try simp only[aD,R,simprocAttr])
  all_goals clear R
  all_goals rfl
end Go.Proofs.YtoffnnjbplgnaaaGreatDoor
namespace Go.Abs
open Go Go.RowKit Go.ChangeShapes
open Enc (enc)
def xB(P:Program)(u:TypeId)(n:Nat)(S:I→Prop):Prop:=P.cellsOf u=n ∧
 ∀ {H:Type} {enc0:TypeId×Value→H} {w:World} {fuel:Nat} {cs:List Value} {x:DataW H×List MemPlace},DataW.trod enc0 P w 0 (fun _=>true) true fuel u cs=some x→(∀ k∈x.1.weights P u,k≤reachBytes)→∃ v,S v∧ae w (jz w) cu v cs
theorem ir.bf{P:Program}{u:TypeId}{α:Type}[Enc α]{B:α→Prop}(h:ir P u α B):xB P u (Enc.sz α) fun v=>∃ a:α,B a∧v=enc a :=
 ⟨h.cells,fun hx hw=>by obtain ⟨a,hB,ha⟩:=h.mS hx hw;exact ⟨enc a,⟨a,hB,rfl⟩,ha⟩⟩
def mP(P:Program):Nat→List (TypeId×Nat)→List (Nat×(I→Prop))→Prop
 |_,[],[]=>True
 |o,(u,off)::l,(n,S)::Ss=>off=o∧xB P u n S∧mP P (o+n) l Ss
 |_,_,_=>False
theorem Ap{P:Program}{H:Type}{enc0:TypeId×Value→H}{w:World}{m:Nat}{cs:List Value} : ∀ (l:List (TypeId×Nat)) (Ss:List (Nat×(I→Prop))) (o:Nat),mP P o l Ss→cs.length=o+qy Ss →
  (∀ (i:Nat) (u:TypeId) (off:Nat),l[i]?=some (u,off)→∃ y,DataW.trod enc0 P w 0 (fun _=>true) true m u ((cs.drop off).take (P.cellsOf u))=some y∧∀ k∈y.1.weights P u,k≤reachBytes)→∃ vs,nI Ss vs∧aH w (jz w) cu vs (cs.drop o)
 | [],[],o,_,hl,_=>⟨[],trivial,by simp only[aH];exact zx9 (by simp only[qy] at hl;omega)⟩
 |(u,off)::l,(n,S)::Ss,o,h,hl,hf=>by
  obtain ⟨rfl,h2,h3⟩:=h;obtain ⟨y,hy,hyw⟩:=hf 0 u off rfl;obtain ⟨v,hv1,hv2⟩:=h2.2 hy hyw;obtain ⟨vs,k1,k2⟩:=Ap l Ss (off+n) h3 (by simp only[qy] at hl;omega) fun i u' o' hi=>hf (i+1) u' o' hi;refine ⟨v::vs,⟨hv1,k1⟩,?_⟩;simp only[aH];rw[h2.1] at hv2;exact ⟨_,(cs.drop off).drop n,(List.take_append_drop n _).symm,hv2,by rw[List.drop_drop];exact k2⟩
 | [],_::_,_,h,_,_=>h.elim
 |_::_,[],_,h,_,_=>by simp[mP] at h
theorem vO{P:Program}{t:TypeId}{H:Type}{enc0:TypeId×Value→H}{w:World}{fuel:Nat}{cs:List Value}{x:DataW H×List MemPlace}(l:List (TypeId×Nat))(Ss:List (Nat×(I→Prop)))(ht:r0 P t l=true)(hok:mP P 0 l Ss)(hc:P.cellsOf t=qy Ss)(h:DataW.trod enc0 P w 0 (fun _=>true) true fuel t cs=some x)(hw:∀ k∈x.1.weights P t,k≤reachBytes) :
  ∃ vs,nI Ss vs∧ae w (jz w) cu (.agg vs) cs:=by
 obtain ⟨hl,m,hf⟩:=Zq ht h hw;obtain ⟨vs,k1,k2⟩:=Ap l Ss 0 hok (by rw[hl,hc];omega) hf;exact ⟨vs,k1,by simpa only[ae,List.drop_zero] using k2⟩
theorem XY{P:Program}{t:TypeId}(ht:P.underlying t=some .string)(hc:P.cellsOf t=1):ir P t ay fun s=>s.l.length≤140737488351232 :=
 ⟨hc,Nat.one_pos,fun {H enc0 w fuel cs x} h hw=>by
  obtain ⟨s,rfl,rfl,hs⟩:=DataW.trod_string ht h;refine ⟨⟨s⟩,?_,?_⟩
  ·have:=hw s.data.toList.length (by simp[DataW.weights]);exact this
  ·show ae _ _ _ (.ak s) _
   simp only[ae,true_and];exact hs⟩
theorem XZ{P:Program}{t:TypeId}{α:Type}[Enc α]{B:α→Prop}{H:Type}{enc0:TypeId×Value→H}{w:World}{dP:Nat}{v:Value}{d:DataW H}{p:List MemPlace}(ho:ir P t α B)(hA:Enc.gw α=false)(hst:(match P.underlying t with | some (.slice _) | some (.int _) | some .bool | some .string=>true | _=>false)=true)(hv:Value.okWide P w .any dP t v)
  (h:DataW.Trod enc0 P w 0 (fun _=>true) true t v d p) (hwt:∀ k∈d.weights P t,k≤reachBytes):∃ (a:α),B a∧∃ (cs:List Value),ba (enc a) v cs∧ae w (jz w) cu (enc a) cs:=by
 obtain ⟨fuel,h⟩:=h;have hone:v.cells.toList=[v]:=by
  unfold Value.okWide at hv;split at hst
  ·rename_i e ht;rw[ht] at hv;simp only[Cell.okWide,ht] at hv;cases v <;>simp_all[Cell.ok,Value.cells]
  ·rename_i e ht;rw[ht] at hv;simp only[Cell.okWide,ht] at hv;cases v <;>simp_all[Cell.ok,Value.cells]
  ·rename_i ht;rw[ht] at hv;simp only[Cell.okWide,ht] at hv;cases v <;>simp_all[Cell.ok,Value.cells]
  ·rename_i ht;rw[ht] at hv;simp only[Cell.okWide,ht] at hv;cases v <;>simp_all[Cell.ok,Value.cells]
  ·cases hst
 rw[hone] at h;obtain ⟨a,hB,ha⟩:=ho.mS h hwt;exact ⟨a,hB,[v],by simp[ba,Enc.agg,hA],ha⟩
end Go.Abs
namespace Go.Proofs.YtoffnnjbplgnaaaGreatDoor
open Go Go.Abs Go.ChangeShapes Go.WideShapes Go.RowKit
open Go.Abs.Enc (enc)
theorem Tryz.own:ownKnob Tryz.prog.godebug=none:=by kernel_rfl
theorem Tryz.We:laidOutB Tryz.prog=true:=by kernel_rfl
theorem WZ:qO Tryz.prog 3 Int:=X0 (by kernel_rfl) (by kernel_rfl)
theorem pg:ir Tryz.prog 3 Int fun _=>True:=WZ.XW
theorem GQ:ir Tryz.prog 9 ay fun s=>s.l.length≤140737488351232:=XY (by kernel_rfl) (by kernel_rfl)
theorem xS:ir Tryz.prog 48 Item fun a=>True:=⟨by kernel_rfl,by decide,fun h hw=>by
 obtain ⟨vs,hv,hr⟩:=vO [(3,0),(3,1)]
  [(1,fun v=>∃ a:Int,True∧v=enc a),(1,fun v=>∃ a:Int,True∧v=enc a)]
  (by kernel_rfl) (by simp only[mP];exact ⟨trivial,pg.bf,trivial,pg.bf,trivial⟩) (by kernel_rfl) h hw
 obtain ⟨v0,vs0,e0,h0,hv0⟩:=kR hv;obtain ⟨a0,p0,f0⟩:∃ a:Int,True∧v0=enc a:=h0;obtain ⟨v1,vs1,e1,h1,hv1⟩:=kR hv0;obtain ⟨a1,p1,f1⟩:∃ a:Int,True∧v1=enc a:=h1;have e2:=tT hv1;rw[e0,e1,e2,f0,f1] at hr;refine ⟨⟨a0,a1⟩,trivial,?_⟩;exact hr⟩
theorem GP:ir Tryz.prog 50 ah fun a=>a.text.length≤140737488351232:=⟨by kernel_rfl,by decide,fun h hw=>by
 obtain ⟨vs,hv,hr⟩:=vO [(48,0),(3,2),(3,3),(3,4),(48,5),(9,7)]
  [(2,fun v=>∃ a:Item,True∧v=enc a),(1,fun v=>∃ a:Int,True∧v=enc a),(1,fun v=>∃ a:Int,True∧v=enc a),(1,fun v=>∃ a:Int,True∧v=enc a),(2,fun v=>∃ a:Item,True∧v=enc a),(1,fun v=>∃ a:ay,a.l.length≤140737488351232∧v=enc a)]
  (by kernel_rfl) (by simp only[mP];exact ⟨trivial,xS.bf,trivial,pg.bf,trivial,pg.bf,trivial,pg.bf,trivial,xS.bf,trivial,GQ.bf,trivial⟩) (by kernel_rfl) h hw
 obtain ⟨v0,vs0,e0,h0,hv0⟩:=kR hv;obtain ⟨a0,p0,f0⟩:∃ a:Item,True∧v0=enc a:=h0;obtain ⟨v1,vs1,e1,h1,hv1⟩:=kR hv0;obtain ⟨a1,p1,f1⟩:∃ a:Int,True∧v1=enc a:=h1;obtain ⟨v2,vs2,e2,h2,hv2⟩:=kR hv1;obtain ⟨a2,p2,f2⟩:∃ a:Int,True∧v2=enc a:=h2;obtain ⟨v3,vs3,e3,h3,hv3⟩:=kR hv2;obtain ⟨a3,p3,f3⟩:∃ a:Int,True∧v3=enc a:=h3;obtain ⟨v4,vs4,e4,h4,hv4⟩:=kR hv3;obtain ⟨a4,p4,f4⟩:∃ a:Item,True∧v4=enc a:=h4;obtain ⟨v5,vs5,e5,h5,hv5⟩:=kR hv4;obtain ⟨a5,p5,f5⟩:∃ a:ay,a.l.length≤140737488351232∧v5=enc a:=h5;have e6:=tT hv5;rw[e0,e1,e2,e3,e4,e5,e6,f0,f1,f2,f3,f4,f5] at hr;refine ⟨⟨a0.aM,a0.no,a1,a2,a3,a4.aM,a4.no,a5.l⟩,p5,?_⟩;exact hr⟩
theorem Hj:Tryz.prog.bytesOf 50=72:=by kernel_rfl
theorem xT:ir Tryz.prog 23 (List ah) fun l=>(∀ r∈l,r.text.length≤140737488351232)∧l.length*72≤reachBytes:=by
 have h:=XX (P:=Tryz.prog) (t:=23) (e:=50) (by kernel_rfl) GP (by kernel_rfl);exact ⟨h.cells,h.sM,fun hx hw=>by
  obtain ⟨a,⟨h1,h2⟩,h3⟩:=h.mS hx hw;rw[Hj] at h2;exact ⟨a,⟨h1,h2⟩,h3⟩⟩
theorem xR:ir Tryz.prog 71 cN fun a=>(∀ r∈a.l,r.text.length≤140737488351232)∧a.l.length*72≤reachBytes:=⟨by kernel_rfl,by decide,fun h hw=>by
 obtain ⟨vs,hv,hr⟩:=vO [(23,0)]
  [(1,fun v=>∃ a:(List ah),((∀ r∈a,r.text.length≤140737488351232)∧a.length*72≤reachBytes)∧v=enc a)]
  (by kernel_rfl) (by simp only[mP];exact ⟨trivial,xT.bf,trivial⟩) (by kernel_rfl) h hw
 obtain ⟨v0,vs0,e0,h0,hv0⟩:=kR hv;obtain ⟨a0,p0,f0⟩:∃ a:(List ah),((∀ r∈a,r.text.length≤140737488351232)∧a.length*72≤reachBytes)∧v0=enc a:=h0;have e1:=tT hv0;rw[e0,e1,f0] at hr;refine ⟨⟨a0⟩,p0,?_⟩;exact hr⟩
theorem Y0{w:World}{D:aJ}{E:aN}{x y z:I}{a b c:Value}(hx:∃ cs,ba x a cs∧ae w D E x cs)(hy:∃ cs,ba y b cs∧ae w D E y cs)(hz:∃ cs,ba z c cs∧ae w D E z cs):ar w D E [x,y,z] [a,b,c]:=by
 obtain ⟨c1,h1,h2⟩:=hx;obtain ⟨c2,h3,h4⟩:=hy;obtain ⟨c3,h5,h6⟩:=hz;simp only[ar];exact ⟨a,[b,c],c1,rfl,h1,h2,b,[c],c2,rfl,h3,h4,c,[],c3,rfl,h5,h6,rfl⟩
def jo : List (String × DataW Unit) := [("math/bits.deBruijn32tab", Rows.laid_math_bits_deBruijn32tab), ("math/bits.deBruijn64tab", Rows.laid_math_bits_deBruijn64tab), ("internal/strconv.uint64pow10", Rows.laid_internal_strconv_uint64pow10), ("strconv.ErrRange", Rows.laid_strconv_ErrRange), ("strconv.ErrSyntax", Rows.laid_strconv_ErrSyntax)]
def Fq:List Int:=[1,10,100,1000,10000,100000,1000000,10000000,100000000,1000000000,10000000000,100000000000,1000000000000,10000000000000,100000000000000,1000000000000000,10000000000000000,100000000000000000,1000000000000000000,10000000000000000000]
theorem UF : Tryz.prog.globalNamed "internal/strconv.uint64pow10" = some 3 := by kernel_rfl
theorem Zy:(Tryz.prog.globals[3]?).map (·.type)=some 256:=by kernel_rfl
theorem UE : Tryz.prog.globalNamed "internal/bytealg.MaxLen" = some 0 := by kernel_rfl
theorem DT:((begin Tryz.prog (fun _ _=>0) default).world.heap[0]?).bind Obj.row?=some (#[.int .i64 0],3):=by kernel_rfl
theorem UH : Tryz.prog.globalNamed "strconv.ErrSyntax" = some 1 := by kernel_rfl
theorem UG : Tryz.prog.globalNamed "strconv.ErrRange" = some 2 := by kernel_rfl
theorem E6:(Tryz.prog.globals[1]?).map (·.type)=some 199∧(Tryz.prog.globals[2]?).map (·.type)=some 199:=⟨by kernel_rfl,by kernel_rfl⟩
theorem Bk:(match Tryz.prog.underlying 199 with | some (.interface _)=>true | _=>false)=true:=by kernel_rfl
theorem WK {W : World} (hsh : W.ShapedOpen Tryz.prog) : ∃ v, W.var? Tryz.prog "internal/bytealg.MaxLen" = some v ∧ r5 .int v := by
 obtain ⟨m,hm⟩:=cell_of_shapedOpen_int (k:=.i64) hsh (show 0<Tryz.prog.globals.size from of_decide_eq_true (by kernel_rfl)) DT rfl (by kernel_rfl) (by kernel_rfl) (by kernel_rfl);obtain ⟨cs,hh,hs,_⟩:=hsh.1 0 _ _ (show 0<Tryz.prog.globals.size from of_decide_eq_true (by kernel_rfl)) DT;refine ⟨cs,?_,m,?_⟩
 ·unfold World.var?;rw[UE];simp only[Option.bind_some];revert hh;cases hb:W.heap[0]? with
  |none=>intro hh;simp at hh
  |some o =>
   intro hh;cases o <;>simp[] at hh
   simp[hh]
 ·have h1:cs.size=1:=hs;have hcell:W.cell? ⟨0,0,none⟩=cs[0]?:=by
   unfold World.cell?;revert hh;cases hb:W.heap[0]? with
   |none=>intro hh;simp at hh
   |some o =>
    intro hh;cases o <;>simp[] at hh
    rw[←hh.1];rfl
  rw[hcell] at hm;apply Array.ext
  ·simp[h1]
  ·intro i h2 h3;obtain rfl:i=0:=by simp at h3;omega
   have:=(zz4.1 hm).2;simpa using this
theorem Aj {W : World} (h : laidMet Tryz.prog jo W) {n : String} {text : List UInt8} {g : Nat} (hn : (n, DataW.iface "*errors.errorString" (.ptr (.agg [.lit (.string text)]))) ∈ jo) (hg : Tryz.prog.globalNamed n = some g) (ht : (Tryz.prog.globals[g]?).map (·.type) = some 199) :
  ∃ v,W.var? Tryz.prog n=some v∧r5 .nV v:=by
 obtain ⟨g',t',cs,fuel,p,hg',ht',hvar,hd⟩:=Lib.laidMet.reads h hn;obtain rfl:=Option.some.inj (hg.symm.trans hg');obtain rfl:=Option.some.inj (ht.symm.trans ht');cases hi:Tryz.prog.underlying 199 with
 |none=>have:=Bk;rw[hi] at this;cases this
 |some d =>
  cases d <;>(try (have:=Bk;rw[hi] at this;cases this;done))
  obtain ⟨_,u,v,hcs,_,_⟩:=iface_of_trod hi hd;refine ⟨cs,hvar,u,v,?_⟩;apply Array.ext';simpa using hcs
theorem XL{W:World}(h:laidMetH Tryz.prog jo W)(hsh:W.ShapedOpen Tryz.prog):eH Tryz.prog W (fun _=>False):=by
 rw[MakeChecks.laidMetH_plain _ _ _ (by kernel_rfl)] at h;intro q hq g hg;refine ⟨id,?_⟩;simp only[mJ,zy8,List.not_mem_nil,or_false] at hq;rcases hq with rfl | rfl | rfl | rfl
 ·obtain ⟨g', t', cs, fuel, p, hg', ht', hvar, hd⟩ := Lib.laidMet.reads h (n := "internal/strconv.uint64pow10") (d := Rows.laid_internal_strconv_uint64pow10) (by simp [jo])
  obtain rfl:=Option.some.inj (UF.symm.trans hg');obtain rfl:=Option.some.inj (Zy.symm.trans ht');have hd':DataW.trod (fun _=>()) Tryz.prog W 0 (fun _=>true) false fuel 256 cs.toList=some (Lib.tabData .u64 Fq,p):=hd;have hc:=Lib.cells_of_tab (n:=20) (e:=227) (VU (by kernel_rfl)) (by kernel_rfl) (by kernel_rfl) (by kernel_rfl) hd';refine ⟨cs,hvar,?_⟩
  show cs=BD
  have:cs=(Fq.map fun z=>Value.int .u64 z).toArray:=by rw[←hc]
  rw[this];rfl
 ·exact WK hsh
 ·exact Aj h (n := "strconv.ErrSyntax") (text := [105, 110, 118, 97, 108, 105, 100, 32, 115, 121, 110, 116, 97, 120]) (by simp [jo, Rows.laid_strconv_ErrSyntax]) UH E6.1
 ·exact Aj h (n := "strconv.ErrRange") (text := [118, 97, 108, 117, 101, 32, 111, 117, 116, 32, 111, 102, 32, 114, 97, 110, 103, 101]) (by simp [jo, Rows.laid_strconv_ErrRange]) UG E6.2
theorem YR{H:Type}{enc0:TypeId×Value→H}{a:Assume}{C:Checked}{os:Os}{f:FuncId}{fn:Func}{s:ChangeSpec}{conds:List PathCond}{apart jK handsOn again:Bool}{X:World→Array Value→Prop}
  (hX:∀ (w w':World) (args:Array Value),w.heap=w'.heap→X w args→X w' args)
  (own:ownKnob C.prog.godebug=none) (started:os.Started) (noInit:C.prog.inits.idxOf? f=none) (hfn:C.prog.funcs[f]?=some fn)
  (witness:∃ (w:World) (tape:Tape) (i:Input),w.os=os∧(w.forCall tape i).Shaped C.prog∧i.vars=[]∧Input.okWide C.prog (w.forCall tape i) .any w.heap.size f i ∧
   ((s.pre enc0 C.prog fn conds apart (w.forCall tape i).memory i.args∧X (w.forCall tape i).memory i.args)∧sizedMet enc0 C.prog fn (OpenSpec.ofChange s) apart (w.forCall tape i).memory i.args)∧a.holds C.prog (lone (Frame.enter C.prog f i.args .normal) [] (w.forCall tape i)))
  (contract:∀ (W:World) (dP:Nat) (args:Array Value) (ds gs:List (DataW H)) (before:List MemPlace),
   (∀ (j:Nat) t v,fn.params[j]?=some t→args[j]?=some v→Value.okWide C.prog W .any dP t v) →
   DataW.Whole enc0 C.prog fn.params.toList s.vars apart W args.toList ds gs before →
   (DataW.weightsEach C.prog (fn.params.toList++s.plain.varTypes C.prog) (ds++gs)).all (· ≤ reachBytes)=true→X W args→W.ShapedOpen C.prog →
   Calls C.prog f args W fun e W'=>∃ v,e=.returned v∧s.post enc0 C.prog fn apart jK handsOn again W args v W') :
  ReturnsInHanded a C os f .any (fun w args=>(s.pre enc0 C.prog fn conds apart w args∧X w args)∧sizedMet enc0 C.prog fn (OpenSpec.ofChange s) apart w args) (s.post enc0 C.prog fn apart jK handsOn again):=by
 refine returnsInHanded_of_calls own started noInit witness ?_;intro w tape i _ hsh _ hok hpre _;obtain ⟨_,_,_,fn',hfn',_,_,_,_,hval⟩:=hok;have e:fn'=fn:=Option.some.inj (hfn'.symm.trans hfn);subst e;obtain ⟨⟨⟨ds,gs,before,hw,_⟩,hx⟩,hz⟩:=hpre;have hw':=DataW.Whole.of_heap (w':=w.forCall tape i) (by rfl) hw;refine (contract (w.forCall tape i) w.heap.size i.args ds gs before hval hw' (hz.weights hw) (hX _ _ _ (by rfl) hx) hsh).mono fun e W' ⟨v,he,hp⟩ =>?_;subst he;exact ChangeSpec.post_blind hp
end Go.Proofs.YtoffnnjbplgnaaaGreatDoor
namespace Go.Proofs.YtoffnnjbplgnaaaGreatDoor
open Go Go.Abs
open Go.Abs.Enc (enc)
def ct:ah:=default
theorem kd:I.agg [.agg [.int .i64 0,.int .i64 0],.int .i64 0,.int .i64 0,.int .i64 0,.agg [.int .i64 0,.int .i64 0],.ak ⟨#[]⟩]=enc ct:=rfl
theorem ER{A:ab}{l:List ah} : j2 A 8 (enc l)=some (l.map enc):=kJ A 8 l rfl
theorem ES{A:ab}{n lo k:Nat}{xs:List ah}(ho:A.o n=some (.box (.agg (xs.map enc))))(hl:lo+k≤xs.length):j2 A 8 (.view n [] 8 lo k)=some (((xs.drop lo).take k).map enc):=nq ho hl
theorem fP{k:Nat}{a:ai}{m:Nat} : al [(k,a)] m=true↔m=k:=by
 constructor
 ·intro h;simp only[al,aE] at h;split at h
  ·assumption
  ·simp at h
 ·rintro rfl;simp[al,aE]
theorem Bh{A:ab}{k k':Nat}{c c':I}(h1:A.o k=some (.box c))(h2:∀ p,c.only p=true)(h1':A.o k'=some (.box c'))(h2':∀ p,c'.only p=true):∀ n x,aE [(k,.box c),(k',.box c')] n=some x→A.o n=some x∧x.only (al [(k,.box c),(k',.box c')])=true∧x.ej=true:=fun n x h=>by
 simp only[aE] at h;split at h
 ·rename_i hn;subst hn;simp only[v6] at h;subst h;exact ⟨h1,h2 _,rfl⟩
 ·split at h
  ·rename_i hn;subst hn;simp only[v6] at h;subst h;exact ⟨h1',h2' _,rfl⟩
  ·cases h
theorem fo(p:Nat→Bool)(l:List ah):(I.agg (l.map enc)).only p=true:=by simp only[I.only];exact ku p l
def eR(k:Nat)(l:List ah)(m:Nat):List (Nat×ai):=[(k,.box (.agg ((l++List.replicate m ct).map enc)))]
def mA(l:List ah):cd:=fun r os'=>(l=[]∧(r=.nils 8∨r=.c0 8)∧os'=[])∨(l≠[]∧∃ m,r=.view 7 [] 8 0 l.length∧os'=eR 7 l m)
theorem qI(l:List ah)(hl:l.length≤1000):eT Tryz.prog 93 [enc l] [] (mA l):=by
 refine eT.bO Tryz.func93 zu zC zN (t8 rfl) (t8 rfl) (fun m hm=>by simp[al,aE] at hm) (fun hwf W0 bE E1 =>?_);simp only[ug,vZ,bD];refine .dE (by decide +kernel) fun K hK =>?_;simp only[u2,aX];refine .done (hK _ ?_);clear hK K;refine U.seq (U.seq ?_);by_cases hn:l=[]
 ·subst hn;refine .gS (by decide +kernel) fun K hK =>?_;simp only[pE,aX,Nat.reduceEqDiff,reduceIte];simp only[tu,List.isEmpty_nil,ou];refine .any rfl fun b _ =>?_
  try simp only[aX]
  generalize (b==0)=t;cases t
  ·refine .done (hK _ ?_);clear hK K;try simp only[cH]
   refine U.gM ?_;simp only[aj,aX,Nat.reduceEqDiff,reduceIte];refine ⟨fun h =>?_,fun h =>?_⟩
   ·cases h
   refine U.skip ?_;try simp only[cH]
   refine .dE (by decide +kernel) fun K hK =>?_;simp only[pF,aX]
   try simp only[gC,kd,aX,Nat.reduceEqDiff,reduceIte]
   refine .done (hK _ ?_);clear hK K;refine U.ret ?_;simp only[jY];exact ⟨[],[.c0 8],vb,⟨⟨.c0 8,rfl,.inl ⟨rfl,rfl,rfl⟩⟩,trivial⟩,.inl ⟨rfl,.inr rfl,rfl⟩⟩
  ·refine .done (hK _ ?_);clear hK K;refine U.gM ?_;simp only[aj,aX,Nat.reduceEqDiff,reduceIte];refine ⟨fun h =>?_,fun h =>?_⟩
   ·refine .dE (by decide +kernel) fun K hK =>?_;simp only[u3,aX];refine .done (hK _ ?_);clear hK K;refine U.ret ?_;simp only[cH,jY];exact ⟨[],[.nils 8],vb,⟨⟨.nils 8,rfl,.inl ⟨rfl,rfl,rfl⟩⟩,trivial⟩,.inl ⟨rfl,.inl rfl,rfl⟩⟩
   ·cases h
 ·have hu:ja (enc l)=false:=by rw[tu];simpa using hn
  refine .gS (by decide +kernel) fun K hK =>?_;simp only[pE,aX,Nat.reduceEqDiff,reduceIte]
  try simp only[hu,B6 _ l hn,aX]
  refine .done (hK _ ?_);clear hK K;try simp only[cH]
  refine U.gM ?_;simp only[aj,aX,Nat.reduceEqDiff,reduceIte];refine ⟨fun h =>?_,fun h =>?_⟩
  ·cases h
  refine U.skip ?_;try simp only[cH]
  refine .dE (by decide +kernel) fun K hK =>?_;simp only[pF,aX]
  try simp only[gC,kd,aX,Nat.reduceEqDiff,reduceIte]
  refine aZ.qX ct rfl hn rfl (by omega) (by simp only[maxLen];omega) fun m =>?_
  try simp only[aX,Nat.reduceEqDiff,reduceIte]
  refine .done (hK _ ?_);clear hK K;refine U.ret ?_;simp only[jY];exact ⟨eR 7 l m,[.view 7 [] 8 0 l.length],oa rfl (fun p=>fo p _),⟨⟨_,rfl,.inl ⟨rfl,rfl,rfl⟩⟩,trivial⟩,.inr ⟨hn,m,rfl,rfl⟩⟩
def ga(l:List ah)(i:Nat)(g:ah):List ah:=l.take i++g::l.drop i
theorem VT{l:List ah}{i:Nat}(g:ah)(h:i≤l.length):(ga l i g).length=l.length+1:=by
 simp only[ga,Z1,Z9,zx0,List.length_drop];omega
def Bo(l:List ah)(i:Nat)(g:ah)(k:Nat):cd:=fun r os' =>
 (∃ q,r=.view 1000000 [] 8 0 (l.length+1)∧os'=eR 1000000 (ga l i g) q)∨∃ d q,(d=25∨d=40)∧r=.view d [] 8 0 (l.length+1)∧os'=eR d (ga l i g) q++eR 1000000 l k
theorem WC(l:List ah)(i q:Nat)(g:ah)(h:i<l.length)(xs:List ah)(hx:xs=l.take i++(List.replicate (l.length+1-i) ct++List.replicate q ct))(ys:List ah)(hy:ys=xs.take i++([g].take 1++xs.drop (i+1))) :
  ys.take (i+1)++((((l++List.replicate 0 ct).drop i).take (l.length-i)).take (l.length-i)++ys.drop (i+1+(l.length-i)))=ga l i g++List.replicate q ct:=by
 have e1:xs.take i=l.take i:=by rw[hx,List.take_append_of_le_length (by rw[Z9];omega),List.take_take,Nat.min_self]
 have e2:xs.drop (i+1)=List.replicate (l.length-i+q) ct:=by
  have hl:(l.take i).length=i:=by rw[Z9];omega
  rw[hx,List.replicate_append_replicate,List.drop_append,hl,zx9 (by rw[hl];omega),zz3,List.drop_replicate]
  congr 1;omega
 have e3:ys=(l.take i++[g])++List.replicate (l.length-i+q) ct:=by rw[hy,e1,e2];simp
 have hl2:(l.take i++[g]).length=i+1:=by rw[Z1,Z9];simp;omega
 have e4:ys.take (i+1)=l.take i++[g]:=by rw[e3,←hl2,List.take_left]
 have e5:ys.drop (i+1+(l.length-i))=List.replicate q ct:=by
  rw[e3,List.drop_append,hl2,zx9 (by rw[hl2];omega),zz3,List.drop_replicate]
  congr 1;omega
 have e6:(((l++List.replicate 0 ct).drop i).take (l.length-i)).take (l.length-i)=l.drop i:=by
  rw[List.replicate_zero,List.append_nil,List.take_take,Nat.min_self,List.take_of_length_le (by rw[List.length_drop];omega)]
 rw[e4,e5,e6];simp[ga]
theorem WB(l:List ah)(i k:Nat)(g:ah)(h:i<l.length)(hk:1≤k)(xs:List ah)(hx:xs=l++List.replicate k ct)(ys:List ah)(hy:ys=xs.take (i+1)++(((xs.drop i).take (l.length+1-i)).take (l.length-i)++xs.drop (i+1+(l.length-i)))) :
  ys.take i++([g].take 1++ys.drop (i+1))=ga l i g++List.replicate (k-1) ct:=by
 have e1:((xs.drop i).take (l.length+1-i)).take (l.length-i)=l.drop i:=by
  rw[List.take_take,Nat.min_eq_left (by omega),hx,List.drop_append_of_le_length (by omega),List.take_append_of_le_length (by rw[List.length_drop];omega),List.take_of_length_le (by rw[List.length_drop];omega)]
 have e2:xs.drop (i+1+(l.length-i))=List.replicate (k-1) ct:=by
  rw[hx,List.drop_append,zx9 (by omega),zz3,List.drop_replicate]
  congr 1;omega
 have hl:(xs.take (i+1)).length=i+1:=by rw[Z9,hx,Z1];omega
 have e3:ys.take i=l.take i:=by
  rw[hy,List.take_append_of_le_length (by omega),List.take_take,Nat.min_eq_left (by omega),hx,List.take_append_of_le_length (by omega)]
 have e4:ys.drop (i+1)=l.drop i++List.replicate (k-1) ct:=by
  rw[hy,e1,e2];exact List.drop_left' hl
 rw[e3,e4];simp[ga]
theorem Ft(l:List ah)(i:Nat)(g:ah)(k:Nat)(hi:i≤l.length)(hn:l≠[])(hlen:l.length≤1000) :
  eT Tryz.prog 101 [.view 1000000 [] 8 0 l.length,enc (i:Int),enc [g]] (eR 1000000 l k) (Bo l i g k):=by
 refine eT.bO Tryz.func101 ui uk uw (t8 rfl) (t8 rfl) (fun m hm=>by rw[fP.1 hm];exact Z7 _) (fun hwf W0 bE E1 =>?_);simp only[rf,sP,bD,Z5,Nat.reduceAdd];simp only[eR];have hl0:0<l.length:=List.length_pos_iff.2 hn;have htot:((l++List.replicate k ct).map (enc (α:=ah))).length=l.length+k:=by simp
 refine .dE (by decide +kernel) fun K hK =>?_;simp only[rE,aX];refine .done (hK _ ?_);clear hK K;obtain ⟨y,hy⟩:=Zd (n:=1000000) (p:=[]) (sz:=8) hi (show l.length≤l.length+k by omega);refine .dE (by decide +kernel) fun K hK =>?_;simp only[rF,aX,Nat.reduceEqDiff,reduceIte]
 try simp only[gC,htot,zy0,hy,aX,reduceIte]
 refine .done (hK _ ?_);clear hK K;refine .dE (by decide +kernel) fun K hK =>?_;simp only[rG,aX,Nat.reduceEqDiff,reduceIte]
 try simp only[typR,jb,jT,iS,aX,Nat.reduceEqDiff,reduceIte,Int.reduceBNe,Int.reduceBEq]
 refine .done (hK _ ?_);clear hK K;refine U.seq (U.seq ?_);refine .gS (by decide +kernel) fun K hK =>?_;simp only[rH,aX,Nat.reduceEqDiff,reduceIte]
 try simp only[typR,jb,jT,iS,aX,Nat.reduceEqDiff,reduceIte,Int.reduceBNe,Int.reduceBEq]
 refine .done (hK _ ?_);clear hK K;try simp only[cH]
 refine U.gM ?_;simp only[aj,aX,Nat.reduceEqDiff,reduceIte];refine ⟨fun h =>?_,fun h =>?_⟩
 ·first | cases h | simp at h
 refine U.skip ?_;try simp only[cH]
 refine .dE (by decide +kernel) fun K hK =>?_;simp only[rI,aX,Nat.reduceEqDiff,reduceIte]
 try simp only[gC,aX,Nat.reduceEqDiff,reduceIte]
 refine .done (hK _ ?_);clear hK K;refine U.seq (U.seq ?_);refine .gS (by decide +kernel) fun K hK =>?_;simp only[rJ,aX,Nat.reduceEqDiff,reduceIte]
 try simp only[typR,jb,jT,iS,aX,Nat.reduceEqDiff,reduceIte,Int.reduceBNe,Int.reduceBEq]
 refine .done (hK _ ?_);clear hK K;try simp only[cH]
 have hA:∀ ts,(aq ts [(1000000,.box (.agg ((l++List.replicate k ct).map (enc (α:=ah)))))]).o 1000000=some (.box (.agg ((l++List.replicate k ct).map enc))):=fun _=>rfl;have hN:∀ ts (d:Nat),d≠1000000→(aq ts [(1000000,.box (.agg ((l++List.replicate k ct).map (enc (α:=ah)))))]).o d=none:=fun ts d hd=>by
  have:¬ d=1000000:=hd;simp[aq,aE,this]
 refine U.gM ?_;simp only[aj,aX,Nat.reduceEqDiff,reduceIte];refine ⟨fun h =>?_,fun h =>?_⟩
 ·have hil:i=l.length:=by
   have:(i:Int)=l.length:=by simpa using h
   omega
  subst hil;by_cases hk:k=0
  ·subst hk;refine .dE (by decide +kernel) fun K hK =>?_;simp only[pD,aX,Nat.reduceEqDiff,reduceIte]
   try simp only[kd]
   refine aZ.Gy (esz:=8) ct rfl (xs:=l++List.replicate 0 ct) (ys:=[g]) (by simp) (hA _) (by simp) (by simp) (hN _ 25 (by decide)) (by simp;omega) (by simp[maxLen];omega) fun q =>?_;have hc:(l++List.replicate 0 ct).take l.length++([g]++List.replicate q ct)=ga l l.length g++List.replicate q ct:=by simp[ga]
   rw[hc]
   try simp only[List.length_singleton,aX,Nat.reduceEqDiff,reduceIte]
   refine .done (hK _ ?_);clear hK K;refine U.ret ?_;simp only[cH,jY];exact ⟨eR 25 (ga l l.length g) q++eR 1000000 l 0,[.view 25 [] 8 0 (l.length+1)],Bh rfl (fun p=>fo p _) rfl (fun p=>fo p _),⟨⟨_,rfl,.inl ⟨rfl,rfl,rfl⟩⟩,trivial⟩,.inr ⟨25,q,.inl rfl,rfl,rfl⟩⟩
  ·refine .dE (by decide +kernel) fun K hK =>?_;simp only[pD,aX,Nat.reduceEqDiff,reduceIte]
   try simp only[kd]
   rw[xM (esz:=8) _ rfl (xs:=l++List.replicate k ct) (ys:=[g]) (by simp) (hA _) (by simp;omega)];have hc:(l++List.replicate k ct).take l.length++([g]++(l++List.replicate k ct).drop (l.length+[g].length))=ga l l.length g++List.replicate (k-1) ct:=by
    simp[ga,List.drop_append]
   rw[hc]
   try simp only[List.length_singleton,aX,Nat.reduceEqDiff,reduceIte]
   refine .done (hK _ ?_);clear hK K;refine U.ret ?_;simp only[cH,jY];exact ⟨eR 1000000 (ga l l.length g) (k-1),[.view 1000000 [] 8 0 (l.length+1)],oa rfl (fun p=>fo p _),⟨⟨_,rfl,.inl ⟨rfl,rfl,rfl⟩⟩,trivial⟩,.inl ⟨k-1,rfl,rfl⟩⟩
 have hlt:i<l.length:=by
  have:¬ (i:Int)=l.length:=by simpa using h
  omega
 refine U.skip ?_;try simp only[cH]
 refine U.seq (U.seq ?_);refine .gS (by decide +kernel) fun K hK =>?_;simp only[AU,aX,Nat.reduceEqDiff,reduceIte]
 try simp only[Xe,List.length_singleton,aX,Nat.reduceEqDiff,reduceIte]
 rw[IK (xs:=l++List.replicate k ct) (hA _)]
 try simp only[aX,Nat.reduceEqDiff,reduceIte]
 rw[dV _ (by simp;omega) (by simp;omega)];refine .done (hK _ ?_);clear hK K;try simp only[cH]
 have hgt:decide ((((l++List.replicate k ct).length-0:Nat):Int)<(l.length:Int)+((1:Nat):Int))=decide (k=0):=by
  by_cases hk:k=0 <;>simp[hk] <;>omega
 simp only[hgt];by_cases hk:k=0
 ·subst hk;refine U.gM ?_;simp only[aj,aX,Nat.reduceEqDiff,reduceIte];refine ⟨fun h =>?_,fun h =>?_⟩
  ·have htot0:((l++List.replicate 0 ct).map (enc (α:=ah))).length=l.length:=by simp
   refine .dE (by decide +kernel) fun K hK =>?_;simp only[AV,aX,Nat.reduceEqDiff,reduceIte]
   try simp only[gC,htot0,zy0,EK (show i≤l.length by omega) hl0,kd,W7,aX,Nat.reduceEqDiff,reduceIte]
   rw[dV ((l.length:Int)+((1:Nat):Int)) (by omega) (by omega),dV ((l.length:Int)+((1:Nat):Int)-i) (by omega) (by omega)];have hm:(l.length:Int)+((1:Nat):Int)-i=((l.length+1-i:Nat):Int):=by omega
   rw[hm];refine aZ.GI (esz:=8) ct rfl (xs:=l++List.replicate 0 ct) (hA _) (by simp;omega) (by omega) (by simp;omega) (hN _ 40 (by decide)) (by omega) (by simp only[maxLen];omega) fun q =>?_;obtain ⟨xs,hxs⟩:∃ xs,xs=l.take i++(List.replicate (l.length+1-i) ct++List.replicate q ct):=⟨_,rfl⟩
   have hxs':(l++List.replicate 0 ct).take i++(List.replicate (l.length+1-i) ct++List.replicate q ct)=xs:=by rw[hxs,List.take_append_of_le_length (by omega)]
   have hxl:xs.length=l.length+1+q:=by rw[hxs];simp;omega
   have hle:i+(l.length+1-i)=l.length+1:=by omega
   rw[hxs',hle]
   try simp only[aX,Nat.reduceEqDiff,reduceIte]
   refine .done (hK _ ?_);clear hK K;have hxm:(xs.map (enc (α:=ah))).length=l.length+1+q:=by rw[Z2];exact hxl
   have hA2:∀ ts,(aq ts [(40,.box (.agg (xs.map (enc (α:=ah))))),(1000000,.box (.agg ((l++List.replicate 0 ct).map (enc (α:=ah)))))]).o 40=some (.box (.agg (xs.map enc))):=fun _=>rfl;refine .dE (by decide +kernel) fun K hK =>?_;simp only[AM,aX,Nat.reduceEqDiff,reduceIte]
   try simp only[gC,hxm,zy0,mb (show i≤l.length+1 by omega) (show l.length+1≤l.length+1+q by omega) (show i<l.length+1+q by omega),lW,aX,Nat.reduceEqDiff,reduceIte]
   rw[ER,nR (xs:=xs) (c:=1) (hA2 _) (by omega) (by simp;omega)];obtain ⟨ys,hys⟩:∃ ys,ys=xs.take i++([g].take 1++xs.drop (i+1)):=⟨_,rfl⟩
   have hyl:ys.length=l.length+1+q:=by rw[hys];simp;omega
   rw[←hys]
   try simp only[aX]
   refine .done (hK _ ?_);clear hK K;have hym:(ys.map (enc (α:=ah))).length=l.length+1+q:=by rw[Z2];exact hyl
   have hA3:∀ ts z,(aq ts [(40,.box (.agg (ys.map (enc (α:=ah))))),(40,z),(1000000,.box (.agg ((l++List.replicate 0 ct).map (enc (α:=ah)))))]).o 40=some (.box (.agg (ys.map enc))):=fun _ _=>rfl;have hA4:∀ ts z,(aq ts [(40,.box (.agg (ys.map (enc (α:=ah))))),(40,z),(1000000,.box (.agg ((l++List.replicate 0 ct).map (enc (α:=ah)))))]).o 1000000=some (.box (.agg ((l++List.replicate 0 ct).map enc))):=fun _ _=>rfl;refine .dE (by decide +kernel) fun K hK =>?_;simp only[AN,aX,Nat.reduceEqDiff,reduceIte];rw[dV ((i:Int)+((1:Nat):Int)) (by omega) (by omega)];have hi1:(i:Int)+((1:Nat):Int)=((i+1:Nat):Int):=by omega
   try simp only[gC,hym,htot0,hi1,zy0,Z8,mb (show i+1≤l.length+1 by omega) (show l.length+1≤l.length+1+q by omega) (show i+1<l.length+1+q by omega),mb (show i≤l.length by omega) (Z7 l.length) hlt,lW,aX,Nat.reduceEqDiff,reduceIte]
   have hd1:l.length+1-(i+1)=l.length-i:=by omega
   rw[hd1,ES (xs:=l++List.replicate 0 ct) (hA4 _ _) (by simp;omega),nR (xs:=ys) (c:=l.length-i) (hA3 _ _) (by omega) (by simp)];rw[WC l i q g hlt xs hxs ys hys]
   try simp only[aX]
   refine .done (hK _ ?_);clear hK K;refine .dE (by decide +kernel) fun K hK =>?_;simp only[AO,aX,Nat.reduceEqDiff,reduceIte];refine .done (hK _ ?_);clear hK K;refine U.ret ?_;simp only[cH,jY];exact ⟨eR 40 (ga l i g) q++eR 1000000 l 0,[.view 40 [] 8 0 (l.length+1)],Bh rfl (fun p=>fo p _) rfl (fun p=>fo p _),⟨⟨_,rfl,.inl ⟨rfl,rfl,rfl⟩⟩,trivial⟩,.inr ⟨40,q,.inr rfl,rfl,rfl⟩⟩
  ·simp at h
 ·refine U.gM ?_;simp only[aj,aX,Nat.reduceEqDiff,reduceIte];refine ⟨fun h =>?_,fun h =>?_⟩
  ·simp at h;omega
  refine U.skip ?_;try simp only[cH]
  have hk1:1≤k:=by omega
  have hn1:(l.length:Int)+((1:Nat):Int)=((l.length+1:Nat):Int):=by omega
  refine .dE (by decide +kernel) fun K hK =>?_;simp only[AP,aX,Nat.reduceEqDiff,reduceIte];rw[dV ((l.length:Int)+((1:Nat):Int)) (by omega) (by omega)]
  try simp only[gC,htot,hn1,zy0,EK (show l.length+1≤l.length+k by omega) (show 0<l.length+k by omega),aX,Nat.reduceEqDiff,reduceIte]
  refine .done (hK _ ?_);clear hK K;have hi1:(i:Int)+((1:Nat):Int)=((i+1:Nat):Int):=by omega
  have hd1:l.length+1-(i+1)=l.length-i:=by omega
  refine U.seq (U.seq ?_);refine .gS (by decide +kernel) fun K hK =>?_;simp only[AQ,aX,Nat.reduceEqDiff,reduceIte];rw[dV ((i:Int)+((1:Nat):Int)) (by omega) (by omega)]
  try simp only[gC,htot,hi1,hd1,zy0,mb (show i+1≤l.length+1 by omega) (show l.length+1≤l.length+k by omega) (show i+1<l.length+k by omega),XI,aX,Nat.reduceEqDiff,reduceIte]
  refine .ext (.bool false) rfl (ZM (tS:=23) (tR:=4) (e:=50) Tryz.func143 (by kernel_rfl) (by kernel_rfl) (by kernel_rfl) (by kernel_rfl) (by kernel_rfl) (by kernel_rfl) (hA _) rfl ?_ (by decide) (AF (by intro h;have:=congrArg List.length h;rw[Z1,List.length_replicate,zx1] at this;omega) rfl)) ?_
  ·show I.sizes ((l++List.replicate k ct).map enc)≠0
   rw[I.gj (sz:=8) _ (fun e he=>by obtain ⟨x,_,rfl⟩:=zy3.1 he;rw[lO];rfl)];rw[htot];omega
  try simp only[aX,Nat.reduceEqDiff,reduceIte]
  refine .done (hK _ ?_);clear hK K;try simp only[cH]
  refine U.gM ?_;simp only[aj,aX,Nat.reduceEqDiff,reduceIte];refine ⟨fun h =>?_,fun h =>?_⟩
  case neg.refine_2.refine_2.refine_2=>cases h
  have hd2:l.length+1-i=l.length+1-i:=rfl;obtain ⟨xs,hxs⟩:∃ xs,xs=l++List.replicate k ct:=⟨_,rfl⟩
  have hxl:xs.length=l.length+k:=by rw[hxs];simp
  have hxm:(xs.map (enc (α:=ah))).length=l.length+k:=by rw[Z2];exact hxl
  rw[←hxs];have hB:∀ ts,(aq ts [(1000000,.box (.agg (xs.map (enc (α:=ah)))))]).o 1000000=some (.box (.agg (xs.map enc))):=fun _=>rfl;refine .dE (by decide +kernel) fun K hK =>?_;simp only[AR,aX,Nat.reduceEqDiff,reduceIte];rw[dV ((i:Int)+((1:Nat):Int)) (by omega) (by omega)]
  try simp only[gC,hxm,hi1,hd1,zy0,Z8,mb (show i+1≤l.length+1 by omega) (show l.length+1≤l.length+k by omega) (show i+1<l.length+k by omega),mb (show i≤l.length+1 by omega) (show l.length+1≤l.length+k by omega) (show i<l.length+k by omega),lW,aX,Nat.reduceEqDiff,reduceIte]
  rw[ES (xs:=xs) (hB _) (by omega),nR (xs:=xs) (c:=l.length-i) (hB _) (by omega) (by simp;omega)];obtain ⟨ys,hys⟩:∃ ys,ys=xs.take (i+1)++(((xs.drop i).take (l.length+1-i)).take (l.length-i)++xs.drop (i+1+(l.length-i))):=⟨_,rfl⟩
  have hyl:ys.length=l.length+k:=by rw[hys];simp;omega
  have hym:(ys.map (enc (α:=ah))).length=l.length+k:=by rw[Z2];exact hyl
  rw[←hys]
  try simp only[aX]
  refine .done (hK _ ?_);clear hK K;have hC:∀ ts z,(aq ts [(1000000,.box (.agg (ys.map (enc (α:=ah))))),(1000000,z)]).o 1000000=some (.box (.agg (ys.map enc))):=fun _ _=>rfl;refine .dE (by decide +kernel) fun K hK =>?_;simp only[AS,aX,Nat.reduceEqDiff,reduceIte]
  try simp only[gC,hym,zy0,mb (show i≤l.length+1 by omega) (show l.length+1≤l.length+k by omega) (show i<l.length+k by omega),lW,aX,Nat.reduceEqDiff,reduceIte]
  rw[ER,nR (xs:=ys) (c:=1) (hC _ _) (by omega) (by simp;omega)];rw[WB l i k g hlt hk1 xs hxs ys hys]
  try simp only[aX]
  refine .done (hK _ ?_);clear hK K;refine .dE (by decide +kernel) fun K hK =>?_;simp only[AT,aX,Nat.reduceEqDiff,reduceIte];refine .done (hK _ ?_);clear hK K;refine U.ret ?_;simp only[cH,jY];exact ⟨eR 1000000 (ga l i g) (k-1),[.view 1000000 [] 8 0 (l.length+1)],oa rfl (fun p=>fo p _),⟨⟨_,rfl,.inl ⟨rfl,rfl,rfl⟩⟩,trivial⟩,.inl ⟨k-1,rfl,rfl⟩⟩
def eJ(a b:Int):Int:=if a<b then -1 else if a>b then 1 else 0
def gu(a b:Item):Int:=if eJ a.aM b.aM≠0 then eJ a.aM b.aM else eJ a.no b.no
def eh(a b:Item):Bool:=decide (a.aM<b.aM∨(a.aM=b.aM∧a.no<b.no))
theorem xW(a b:ah):cW a b=eh a.aY b.aY:=rfl
theorem zG(a b:Int):(a<b∧eJ a b=-1)∨(a=b∧eJ a b=0)∨(b<a∧eJ a b=1):=by
 simp only[eJ]
 (repeat' split) <;>omega
theorem zH(a b:Item):(eh a b=true∧gu a b=-1)∨(a=b∧gu a b=0)∨(eh b a=true∧gu a b=1):=by
 obtain ⟨m,n⟩:=a;obtain ⟨m',n'⟩:=b;simp only[gu,eh,decide_eq_true_eq,Item.mk.injEq];rcases zG m m' with ⟨h,e⟩ | ⟨h,e⟩ | ⟨h,e⟩ <;>rw[e]
 ·simp;omega
 ·rcases zG n n' with ⟨h2,e2⟩ | ⟨h2,e2⟩ | ⟨h2,e2⟩ <;>rw[e2] <;>simp <;>omega
 ·simp;omega
theorem pj(a:Item):eh a a=false:=by simp only[eh,decide_eq_false_iff_not];omega
theorem ua{a b c:Item}(h:eh a b=true)(k:eh b c=true):eh a c=true:=by
 simp only[eh,decide_eq_true_eq] at *;omega
theorem zI(a b:Item):decide (gu a b<0)=eh a b:=by
 rcases zH a b with ⟨h,e⟩ | ⟨rfl,e⟩ | ⟨h,e⟩
 ·rw[e,h];rfl
 ·rw[e,pj];rfl
 ·rw[e];cases k:eh a b
  ·rfl
  ·have:=ua k h;rw[pj] at this;cases this
theorem J5(a b:Item):(gu a b==0)=decide (a=b):=by
 rcases zH a b with ⟨h,e⟩ | ⟨rfl,e⟩ | ⟨h,e⟩
 ·rw[e,decide_eq_false (fun k=>by rw[k,pj] at h;cases h)];rfl
 ·rw[e];simp
 ·rw[e,decide_eq_false (fun k=>by rw[k,pj] at h;cases h)];rfl
theorem xl(n:Int):aQ Tryz.prog 175 [enc n] (enc false):=by
 refine aQ.bO Tryz.func175 HU Jd KA (t8 rfl) (fun hwf W0 bE E1 =>?_);simp only[c175,Da,bD];clear hwf;have q:(n != n)=false:=by simp
 have R:=y6 @q aw
 repeat' ((first |refine U.aC (by decide +kernel) rfl fun K hK =>?_|(refine .aA [0,2] hK ?_;clear hK K)|(with_reducible refine .done (hK _ ?_);clear hK K)|refine U.of rfl ?_|(with_reducible refine aj.aB (fun h =>?_) (fun h =>?_) <;>try simp only[h])) <;>try simp only[aD,R,simprocAttr])
 all_goals clear R
 all_goals rfl
theorem xj(a b:Int):aQ Tryz.prog 161 [enc a,enc b] (enc (eJ a b)):=by
 refine aQ.bO Tryz.func161 HS Ja Kx (t8 rfl) (fun hwf W0 bE E1 =>?_);simp only[yG,C7,bD,Z5];clear hwf;have f1:=xl a;have f2:=xl b;simp only[eJ];cases q1:decide (a<b)
 ·rw[if_neg (of_decide_eq_false q1)];cases q2:decide (a>b)
  ·rw[if_neg (of_decide_eq_false q2)];have R:=y6 @q1 (y6 @q2 aw)
   repeat' ((first |refine U.aC (by decide +kernel) rfl fun K hK =>?_|refine .flat _ (f1) rfl ?_|refine .flat _ (f2) rfl ?_|(refine .aA [0,1,4,5,6,11,12,13,16,19] hK ?_;clear hK K)|(with_reducible refine .done (hK _ ?_);clear hK K)|refine U.of rfl ?_|(with_reducible refine aj.aB (fun h =>?_) (fun h =>?_) <;>try simp only[h])) <;>try simp only[aD,R,simprocAttr])
   all_goals clear R
   all_goals rfl
  ·rw[if_pos (of_decide_eq_true q2)];have R:=y6 @q1 (y6 @q2 aw)
   repeat' ((first |refine U.aC (by decide +kernel) rfl fun K hK =>?_|refine .flat _ (f1) rfl ?_|refine .flat _ (f2) rfl ?_|(refine .aA [0,1,4,5,6,11,12,13,16,19] hK ?_;clear hK K)|(with_reducible refine .done (hK _ ?_);clear hK K)|refine U.of rfl ?_|(with_reducible refine aj.aB (fun h =>?_) (fun h =>?_) <;>try simp only[h])) <;>try simp only[aD,R,simprocAttr])
   all_goals clear R
   all_goals rfl
 ·rw[if_pos (of_decide_eq_true q1)];have R:=y6 @q1 aw
  repeat' ((first |refine U.aC (by decide +kernel) rfl fun K hK =>?_|refine .flat _ (f1) rfl ?_|refine .flat _ (f2) rfl ?_|(refine .aA [0,1,4,5,6,11,12,13,16,19] hK ?_;clear hK K)|(with_reducible refine .done (hK _ ?_);clear hK K)|refine U.of rfl ?_|(with_reducible refine aj.aB (fun h =>?_) (fun h =>?_) <;>try simp only[h])) <;>try simp only[aD,R,simprocAttr])
  all_goals clear R
  all_goals rfl
theorem FM(a b:Int):aQ Tryz.prog 160 [enc [a,b]] (enc (if a≠0 then a else b)):=by
 refine aQ.bO Tryz.func160 HR I9 Kv (t8 rfl) (fun hwf W0 bE E1 =>?_);simp only[yF,C6,bD];clear hwf;have h0:∀ A,jm A 1 ((0:Nat):Int) (enc [a,b])=some (.ref (enc a)):=fun A=>ec (A:=A) (l:=[a,b]) (k:=0) 1 (by simp) rfl;have h1:∀ A,jm A 1 ((1:Nat):Int) (enc [a,b])=some (.ref (enc b)):=fun A=>ec (A:=A) (l:=[a,b]) (k:=1) 1 (by simp) rfl;have hl:([a,b]:List Int).length=2:=rfl;obtain ⟨l,hll⟩:∃ l,l=[a,b]:=⟨_,rfl⟩
 rw[←hll] at h0 h1 hl ⊢;have R:=aw
 repeat' ((first |refine U.aC (by decide +kernel) rfl fun K hK =>?_|(refine .aA [0,2,3,5,6,7,8,9,14] hK ?_;clear hK K)|(with_reducible refine .done (hK _ ?_);clear hK K)|refine U.of rfl ?_|(with_reducible refine aj.aB (fun h =>?_) (fun h =>?_) <;>try simp only[h])) <;>try simp only[aD,R,simprocAttr])
 all_goals clear R
 refine U.loop (fun i:Nat=>aq [(0,enc l),(3,.int .i64 0),(6,enc l),(7,.int .i64 (l.length:Int)),(8,.int .i64 (i:Int))] []) (fun i=>i≤2∧(0<i→a=0)∧(1<i→b=0)) (fun i=>2-i) 0 ⟨by omega,by omega,by omega⟩ ?_ ?_
 ·refine bl.b6 ?_ ?_ ?_ ?_ <;>simp[bG,bJ,bF,bA,bH,I.only,bp]
  all_goals rfl
 rintro i ⟨hi,k0,k1⟩;have hw:=ew (i:=i) (by omega);by_cases e0:i=0
 ·have hc:=eC (show i<l.length by omega);have he:∀ A,jm A 1 (i:Int) (enc l)=some (.ref (enc a)):=fun A=>by rw[e0];exact h0 A
  cases q:(a != 0)
  ·have R:=y6 @hc (y6 @he (y6 @q (y6 @hw aw)))
   repeat' ((first |refine U.aC (by decide +kernel) rfl fun K hK =>?_|(refine .aA [0,2,3,5,6,7,8,9,14] hK ?_;clear hK K)|(with_reducible refine .done (hK _ ?_);clear hK K)|refine U.of rfl ?_|(with_reducible refine aj.aB (fun h =>?_) (fun h =>?_) <;>try simp only[h])) <;>try simp only[aD,R,simprocAttr])
   all_goals clear R
   refine ⟨i+1,⟨by omega,fun _=>by simpa using q,by omega⟩,by omega,?_⟩;refine bl.b6 ?_ ?_ ?_ ?_ <;>simp[bG,bJ,bF,bA,bH,I.only,bp]
   all_goals rfl
  ·have ha:a≠0:=by simpa using q
   rw[if_pos ha];have R:=y6 @hc (y6 @he (y6 @q (y6 @hw aw)))
   repeat' ((first |refine U.aC (by decide +kernel) rfl fun K hK =>?_|(refine .aA [0,2,3,5,6,7,8,9,14] hK ?_;clear hK K)|(with_reducible refine .done (hK _ ?_);clear hK K)|refine U.of rfl ?_|(with_reducible refine aj.aB (fun h =>?_) (fun h =>?_) <;>try simp only[h])) <;>try simp only[aD,R,simprocAttr])
   all_goals clear R
   all_goals rfl
 have ha:¬ a≠0:=fun h=>h (k0 (by omega));by_cases e1:i=1
 ·have hc:=eC (show i<l.length by omega);have he:∀ A,jm A 1 (i:Int) (enc l)=some (.ref (enc b)):=fun A=>by rw[e1];exact h1 A
  cases q:(b != 0)
  ·have R:=y6 @hc (y6 @he (y6 @q (y6 @hw aw)))
   repeat' ((first |refine U.aC (by decide +kernel) rfl fun K hK =>?_|(refine .aA [0,2,3,5,6,7,8,9,14] hK ?_;clear hK K)|(with_reducible refine .done (hK _ ?_);clear hK K)|refine U.of rfl ?_|(with_reducible refine aj.aB (fun h =>?_) (fun h =>?_) <;>try simp only[h])) <;>try simp only[aD,R,simprocAttr])
   all_goals clear R
   refine ⟨i+1,⟨by omega,fun _=>k0 (by omega),fun _=>by simpa using q⟩,by omega,?_⟩;refine bl.b6 ?_ ?_ ?_ ?_ <;>simp[bG,bJ,bF,bA,bH,I.only,bp]
   all_goals rfl
  ·rw[if_neg ha];have R:=y6 @hc (y6 @he (y6 @q (y6 @hw aw)))
   repeat' ((first |refine U.aC (by decide +kernel) rfl fun K hK =>?_|(refine .aA [0,2,3,5,6,7,8,9,14] hK ?_;clear hK K)|(with_reducible refine .done (hK _ ?_);clear hK K)|refine U.of rfl ?_|(with_reducible refine aj.aB (fun h =>?_) (fun h =>?_) <;>try simp only[h])) <;>try simp only[aD,R,simprocAttr])
   all_goals clear R
   all_goals rfl
 have hc:=eV (show ¬ i<l.length by omega);rw[if_neg ha,k1 (by omega)];have R:=y6 @hc aw
 repeat' ((first |refine U.aC (by decide +kernel) rfl fun K hK =>?_|(refine .aA [0,2,3,5,6,7,8,9,14] hK ?_;clear hK K)|(with_reducible refine .done (hK _ ?_);clear hK K)|refine U.of rfl ?_|(with_reducible refine aj.aB (fun h =>?_) (fun h =>?_) <;>try simp only[h])) <;>try simp only[aD,R,simprocAttr])
 all_goals clear R
 all_goals rfl
theorem FH(a b:Item):aQ Tryz.prog 140 [enc a,enc b] (enc (gu a b)):=by
 refine aQ.bO Tryz.func140 HK I5 Kr (t8 rfl) (fun hwf W0 bE E1 =>?_);simp only[yB,C2,bD,Z5];clear hwf;have f1:=xj a.aM b.aM;have f2:=xj a.no b.no;have f3:=FM (eJ a.aM b.aM) (eJ a.no b.no);have hbs:gr 1 (some [.int .i64 (eJ a.aM b.aM),.int .i64 (eJ a.no b.no)])=some (enc [eJ a.aM b.aM,eJ a.no b.no]):=yb (ys:=[eJ a.aM b.aM,eJ a.no b.no]) 1 rfl;have R:=y6 @hbs aw
 repeat' ((first |refine U.aC (by decide +kernel) rfl fun K hK =>?_|refine .flat _ (f1) rfl ?_|refine .flat _ (f2) rfl ?_|refine .flat _ (f3) rfl ?_|(refine .aA [0,1,2,3,4] hK ?_;clear hK K)|(with_reducible refine .done (hK _ ?_);clear hK K)|refine U.of rfl ?_|(with_reducible refine aj.aB (fun h =>?_) (fun h =>?_) <;>try simp only[h])) <;>try simp only[aD,R,simprocAttr])
 all_goals clear R
 all_goals rfl
theorem xg(x:ah)(a:Item):aQ Tryz.prog 139 [enc x,enc a] (enc (gu x.aY a)):=by
 refine aQ.bO Tryz.func139 HI I3 Kp (t8 rfl) (fun hwf W0 bE E1 =>?_);simp only[yz,C0,bD,Z5];clear hwf;have R:=aw
 repeat' ((first |refine U.aC (by decide +kernel) rfl fun K hK =>?_|refine .flat _ (FH x.aY a) rfl ?_|(refine .aA [0,1,2,3,4] hK ?_;clear hK K)|(with_reducible refine .done (hK _ ?_);clear hK K)|refine U.of rfl ?_|(with_reducible refine aj.aB (fun h =>?_) (fun h =>?_) <;>try simp only[h])) <;>try simp only[aD,R,simprocAttr])
 all_goals clear R
 all_goals rfl
theorem tG(a b:Item):aQ Tryz.prog 108 [enc a,enc b] (enc (eh a b)):=by
 refine aQ.bO Tryz.func108 Hr IS Kd (t8 rfl) (fun hwf W0 bE E1 =>?_);simp only[yj,CO,bD,Z5];clear hwf;have e:eh a b=(decide (a.aM<b.aM)||((a.aM==b.aM)&&decide (a.no<b.no))):=by
  rw[Bool.eq_iff_iff];simp[eh]
 rw[e];cases q1:decide (a.aM<b.aM)
 ·cases q2:(a.aM==b.aM)
  ·have R:=y6 @q1 (y6 @q2 aw)
   repeat' ((first |(with_reducible refine .guard (fun hb =>?_) (fun hb =>?_) <;>try simp only[hb])|refine U.aC (by decide +kernel) rfl fun K hK =>?_|(refine .aA [0,1,2,3,4] hK ?_;clear hK K)|(with_reducible refine .done (hK _ ?_);clear hK K)|refine U.of rfl ?_|(with_reducible refine aj.aB (fun h =>?_) (fun h =>?_) <;>try simp only[h])) <;>try simp only[aD,R,simprocAttr])
   all_goals clear R
   all_goals rfl
  ·have R:=y6 @q1 (y6 @q2 aw)
   repeat' ((first |(with_reducible refine .guard (fun hb =>?_) (fun hb =>?_) <;>try simp only[hb])|refine U.aC (by decide +kernel) rfl fun K hK =>?_|(refine .aA [0,1,2,3,4] hK ?_;clear hK K)|(with_reducible refine .done (hK _ ?_);clear hK K)|refine U.of rfl ?_|(with_reducible refine aj.aB (fun h =>?_) (fun h =>?_) <;>try simp only[h])) <;>try simp only[aD,R,simprocAttr])
   all_goals clear R
   all_goals rfl
 ·have R:=y6 @q1 aw
  repeat' ((first |(with_reducible refine .guard (fun hb =>?_) (fun hb =>?_) <;>try simp only[hb])|refine U.aC (by decide +kernel) rfl fun K hK =>?_|(refine .aA [0,1,2,3,4] hK ?_;clear hK K)|(with_reducible refine .done (hK _ ?_);clear hK K)|refine U.of rfl ?_|(with_reducible refine aj.aB (fun h =>?_) (fun h =>?_) <;>try simp only[h])) <;>try simp only[aD,R,simprocAttr])
  all_goals clear R
  all_goals rfl
theorem ZK(x y:Nat)(h:x+y<9223372036854775807):IntKind.i64.wrap ((x:Int)+(y:Int))=((x+y:Nat):Int):=by rw[dV _ (by omega) (by omega)];omega
theorem ZL{n:Nat}(h:n≤9223372036854775807):IntKind.i64.wrap (n:Int)=(n:Int):=dV _ (by omega) (by omega)
theorem vx(x:Nat):Int.fdiv (x:Int) (2^min (Int.toNat 1) IntKind.u64.bits)=((x / 2:Nat):Int):=by
 have:min (Int.toNat 1) IntKind.u64.bits=1:=rfl;rw[this]
 show Int.fdiv (x:Int) 2=_
 rw[Int.fdiv_eq_ediv_of_nonneg _ (by decide)];rfl
theorem BZ(x:Nat):Int.fdiv (x:Int) (2^min 1 IntKind.u64.bits)=((x / 2:Nat):Int):=vx x
theorem WL{x:Nat}(h:x<9223372036854775807):IntKind.u64.wrap (x:Int)=(x:Int):=by
 simp only[IntKind.wrap,IntKind.bits,IntKind.signed];simp;omega
theorem BY:((0:Int)≤1)=True:=by simp
abbrev mr(l:List ah):Prop:=l.Pairwise fun a b=>cW a b=true
def eE(l:List ah)(a:Item):Nat:=l.findIdx fun x => !eh x.aY a
def hE(l:List ah)(a:Item):Bool:=l.any fun x=>decide (x.aY=a)
theorem X7(l:List ah)(a:Item):eE l a≤l.length:=List.findIdx_le_length
theorem wO{l:List ah}(h:mr l){i j:Nat}(hij:i<j)(hj:j<l.length):eh (l[i]'(by omega)).aY l[j].aY=true:=List.pairwise_iff_getElem.1 h i j (by omega) hj hij
theorem CC{l:List ah}{a:Item}{i:Nat}(hi:i≤l.length)(h1:∀ k (h:k<l.length),k<i→eh l[k].aY a=true)(h2:∀ h:i<l.length,eh l[i].aY a=false):eE l a=i:=by
 simp only[eE];by_cases hlt:i<l.length
 ·refine (List.findIdx_eq hlt).2 ⟨by rw[h2 hlt];rfl,fun j hj =>?_⟩;rw[h1 j (by omega) hj];rfl
 ·have e:i=l.length:=by omega
  rw[e];refine List.findIdx_eq_length.2 fun x hx =>?_;obtain ⟨k,hk,rfl⟩:=List.getElem_of_mem hx;rw[h1 k hk (by omega)];rfl
theorem rT{l:List ah}(hs:mr l)(a:Item):hE l a=true↔∃ h:eE l a<l.length,(l[eE l a]).aY=a:=by
 constructor
 ·intro h;simp only[hE,List.any_eq_true,decide_eq_true_eq] at h;obtain ⟨x,hx,rfl⟩:=h;obtain ⟨k,hk,rfl⟩:=List.getElem_of_mem hx;have h1:eE l l[k].aY=k:=CC (by omega) (fun j hj hjk=>wO hs hjk hk) (fun _=>pj _);exact ⟨by omega,by simp only[h1]⟩
 ·rintro ⟨h1,h2⟩;simp only[hE,List.any_eq_true,decide_eq_true_eq];exact ⟨_,List.getElem_mem h1,h2⟩
theorem FF(l:List ah)(a:Item)(hs:mr l)(hl:l.length≤1000):aQ Tryz.prog 138 [enc l,enc a,.func 139 []] (.tuple [enc (eE l a:Int),enc (hE l a)]):=by
 refine aQ.bO Tryz.func138 HG I2 Ko (t8 rfl) (fun hwf W0 bE E1 =>?_);simp only[yx,CZ,bD,Z5,Nat.reduceAdd];clear hwf;have R:=aw
 repeat' ((first |(with_reducible refine .guard (fun hb =>?_) (fun hb =>?_) <;>try simp only[hb])|refine U.aC (by decide +kernel) rfl fun K hK =>?_|(refine .aA [0,1,2,4,6,7,8,9,10,11,17,31] hK ?_;clear hK K)|(with_reducible refine .done (hK _ ?_);clear hK K)|refine U.of rfl ?_|(with_reducible refine aj.aB (fun h =>?_) (fun h =>?_) <;>try simp only[h])) <;>try simp only[aD,R,simprocAttr])
 all_goals clear R
 refine U.loop (fun s:Nat×Nat=>aq [(0,enc l),(2,.func 139 []),(4,.ptr 4 []),(8,.int .i64 l.length),(9,.int .i64 s.1),(10,.int .i64 s.2)] [(4,.box (enc a))]) (fun s=>s.1≤s.2∧s.2≤l.length∧(∀ k (h:k<l.length),k<s.1→eh l[k].aY a=true)∧∀ k (h:k<l.length),s.2≤k→eh l[k].aY a=false) (fun s=>s.2-s.1) (0,l.length) ⟨zx7 _,Z7 _,fun k _ hk=>by omega,fun k h1 h2=>by simp only at h2;omega⟩ ?_ ?_
 ·refine bl.b6 ?_ ?_ ?_ ?_ <;>simp[bG,bJ,bF,bA,al,bH,cw,I.only,I.bR,ai.only,bp]
  all_goals rfl
 rintro ⟨i,j⟩ ⟨h1,h2,h3,h4⟩;simp only at h1 h2 h3 h4 ⊢;by_cases hlt:i<j
 ·have hc:=eC hlt;have w1:=ZK i j (by omega);have w2:=WL (x:=i+j) (by omega);obtain ⟨h,hh⟩:∃ h,h=(i+j) / 2:=⟨_,rfl⟩
  have w5:=ZL (n:=h) (by omega);have hhl:h<l.length:=by omega
  have he:=fun A=>ec (A:=A) 8 hhl rfl;have hn:=zI l[h].aY a;have hw:=ew (i:=h) (by omega);have f139:=xg l[h] a;rcases hb:eh l[h].aY a
  ·rw[hb] at hn;have hlo:∀ k (h':k<l.length),h≤k→eh l[k].aY a=false:=fun k hkl hk=>by
    cases hbk:eh l[k].aY a with
    |false=>rfl
    |true =>
     by_cases e:k=h
     ·subst e;rw[hb] at hbk;cases hbk
     ·have:=ua (wO hs (show h<k by omega) hkl) hbk;rw[this] at hb;cases hb
   clear hb;generalize l[h]=r at *;have R:=y6 @hc (y6 @w1 (y6 @w2 (y6 @w5 (y6 @he (y6 @hn (y6 @hw (y6 @BZ (y6 @vx (y6 @BY (y6 @jG aw))))))))))
   repeat' ((first |(with_reducible refine .guard (fun hb =>?_) (fun hb =>?_) <;>try simp only[hb])|refine U.aC (by decide +kernel) rfl fun K hK =>?_|refine .flat _ (f139) rfl ?_|(refine .aA [0,1,2,4,6,7,8,9,10,11,17,31] hK ?_;clear hK K)|(with_reducible refine .done (hK _ ?_);clear hK K)|refine U.of rfl ?_|(with_reducible refine aj.aB (fun h =>?_) (fun h =>?_) <;>try simp only[h])) <;>try simp only[aD,R,←hh,zz2,simprocAttr])
   all_goals clear R
   refine ⟨(i,h),⟨by simp only;omega,by simp only;omega,h3,hlo⟩,by simp only;omega,?_⟩;clear hlo;refine bl.b6 ?_ ?_ ?_ ?_ <;>simp[bG,bJ,bF,bA,al,bH,cw,I.only,I.bR,ai.only,bp]
   all_goals rfl
  ·rw[hb] at hn;have hhi:∀ k (h':k<l.length),k<h+1→eh l[k].aY a=true:=fun k hkl hk=>by
    by_cases e:k=h
    ·subst e;exact hb
    ·cases hbk:eh l[k].aY a with
     |true=>rfl
     |false =>
      have:=ua (wO hs (show k<h by omega) hhl) hb;rw[this] at hbk;cases hbk
   clear hb;generalize l[h]=r at *;have R:=y6 @hc (y6 @w1 (y6 @w2 (y6 @w5 (y6 @he (y6 @hn (y6 @hw (y6 @BZ (y6 @vx (y6 @BY (y6 @jG aw))))))))))
   repeat' ((first |(with_reducible refine .guard (fun hb =>?_) (fun hb =>?_) <;>try simp only[hb])|refine U.aC (by decide +kernel) rfl fun K hK =>?_|refine .flat _ (f139) rfl ?_|(refine .aA [0,1,2,4,6,7,8,9,10,11,17,31] hK ?_;clear hK K)|(with_reducible refine .done (hK _ ?_);clear hK K)|refine U.of rfl ?_|(with_reducible refine aj.aB (fun h =>?_) (fun h =>?_) <;>try simp only[h])) <;>try simp only[aD,R,←hh,zz2,simprocAttr])
   all_goals clear R
   refine ⟨(h+1,j),⟨by simp only;omega,h2,hhi,h4⟩,by simp only;omega,?_⟩;clear hhi;refine bl.b6 ?_ ?_ ?_ ?_ <;>simp[bG,bJ,bF,bA,al,bH,cw,I.only,I.bR,ai.only,bp]
   all_goals rfl
 ·have hij:i=j:=by omega
  subst hij;have hc:=eV hlt;have hp:eE l a=i:=CC h2 h3 fun h=>h4 i h (Z7 _);have hh:=rT hs a;rw[hp];by_cases hil:i<l.length
  ·have hc2:=eC hil;have he:=fun A=>ec (A:=A) 8 hil rfl;have hz:=J5 l[i].aY a;have hhz:hE l a=decide (l[i].aY=a):=by
    rw[Bool.eq_iff_iff,hh,decide_eq_true_eq];constructor
    ·rintro ⟨_,e⟩;simp only[hp] at e;exact e
    ·intro e;exact ⟨by omega,by simp only[hp];exact e⟩
   have f139:=xg l[i] a;rw[hhz];clear hhz h3 h4;generalize l[i]=r at *;have R:=y6 @hc (y6 @hc2 (y6 @he (y6 @hz (y6 @jG aw))))
   repeat' ((first |(with_reducible refine .guard (fun hb =>?_) (fun hb =>?_) <;>try simp only[hb])|refine U.aC (by decide +kernel) rfl fun K hK =>?_|refine .flat _ (f139) rfl ?_|(refine .aA [0,1,2,4,6,7,8,9,10,11,17,31] hK ?_;clear hK K)|(with_reducible refine .done (hK _ ?_);clear hK K)|refine U.of rfl ?_|(with_reducible refine aj.aB (fun h =>?_) (fun h =>?_) <;>try simp only[h])) <;>try simp only[aD,R,zz2,simprocAttr])
   all_goals clear R
   all_goals rfl
  ·have hc2:=eV hil;have hhz:hE l a=false:=by
    cases q:hE l a
    ·rfl
    ·obtain ⟨h,_⟩:=hh.1 q;omega
   rw[hhz];have R:=y6 @hc (y6 @hc2 aw)
   repeat' ((first |(with_reducible refine .guard (fun hb =>?_) (fun hb =>?_) <;>try simp only[hb])|refine U.aC (by decide +kernel) rfl fun K hK =>?_|(refine .aA [0,1,2,4,6,7,8,9,10,11,17,31] hK ?_;clear hK K)|(with_reducible refine .done (hK _ ?_);clear hK K)|refine U.of rfl ?_|(with_reducible refine aj.aB (fun h =>?_) (fun h =>?_) <;>try simp only[h])) <;>try simp only[aD,R,simprocAttr])
   all_goals clear R
   all_goals rfl
theorem xv(l:List ah)(a:Item)(hs:mr l)(hl:l.length≤1000):aQ Tryz.prog 94 [enc (⟨l⟩:cN),enc a] (.tuple [enc (eE l a:Int),enc (hE l a)]):=by
 have hF:=FF l a hs hl;refine aQ.bO Tryz.func94 Iz JN Lb (t8 rfl) (fun hwf W0 bE E1 =>?_);simp only[zi,DO,bD,Z5];clear hwf;have R:=aw
 repeat' ((first |refine U.aC (by decide +kernel) rfl fun K hK =>?_|refine .lead _ (hF) ?_|(refine .aA [0,1,2,3,4,5] hK ?_;clear hK K)|(with_reducible refine .done (hK _ ?_);clear hK K)|refine U.of rfl ?_|(with_reducible refine aj.aB (fun h =>?_) (fun h =>?_) <;>try simp only[h])) <;>try simp only[aD,R,simprocAttr])
 all_goals clear R
 all_goals rfl
def ln(x:ah):List ah→Nat→Int
 | [],_=>-1
 |r::l,i=>if x=r then (i:Int) else ln x l (i+1)
theorem Bl(x:ah):∀ (l:List ah) (i:Nat),decide (ln x l i≥0)=decide (x∈l)
 | [],i=>by simp[ln]
 |r::l,i=>by
  rw[ln];by_cases h:x=r
  ·rw[if_pos h];subst h;simp
  ·rw[if_neg h,Bl x l (i+1)];simp[h]
theorem FL(l:List ah)(x:ah)(hl:l.length≤4000000000000):aQ Tryz.prog 159 [enc l,enc x] (enc (ln x l 0)):=by
 refine aQ.bO Tryz.func159 HQ I8 Ku (t8 rfl) (fun hwf W0 bE E1 =>?_);simp only[yE,C5,bD,Z5];clear hwf;have R:=aw
 repeat' ((first |refine U.aC (by decide +kernel) rfl fun K hK =>?_|(refine .aA [0,1,3,4,5,7,8,9,16] hK ?_;clear hK K)|(with_reducible refine .done (hK _ ?_);clear hK K)|refine U.of rfl ?_|(with_reducible refine aj.aB (fun h =>?_) (fun h =>?_) <;>try simp only[h])) <;>try simp only[aD,R,simprocAttr])
 all_goals clear R
 refine U.loop (fun i:Nat=>aq [(0,enc l),(3,.ptr 3 []),(7,.int .i64 l.length),(8,.int .i64 i)] [(3,.box (enc x))]) (fun i=>i≤l.length∧ln x l 0=ln x (l.drop i) i) (fun i=>l.length-i) 0 ⟨zx7 _,by simp⟩ ?_ ?_
 ·refine bl.b6 ?_ ?_ ?_ ?_ <;>simp[bG,bJ,bF,bA,al,bH,cw,I.only,ai.only,bp]
  all_goals rfl
 rintro i ⟨hi,heq⟩;rw[heq];by_cases hlt:i<l.length
 ·have hlc:=eC hlt;have he:=fun A=>ec (A:=A) 8 hlt rfl;have hw:=ew (i:=i) (by omega);have hd:=List.drop_eq_getElem_cons hlt;rw[hd,ln] at heq ⊢;generalize l[i]=r at *;by_cases q:x=r
  ·rw[if_pos q];have q1:decide (x=r)=true:=decide_eq_true q;have R:=y6 @hlc (y6 @he (y6 @hw (y6 @q1 aw)))
   repeat' ((first |refine U.aC (by decide +kernel) rfl fun K hK =>?_|(refine .aA [0,1,3,4,5,7,8,9,16] hK ?_;clear hK K)|(with_reducible refine .done (hK _ ?_);clear hK K)|refine U.of rfl ?_|(with_reducible refine aj.aB (fun h =>?_) (fun h =>?_) <;>try simp only[h])) <;>try simp only[aD,R,simprocAttr])
   all_goals clear R
   all_goals rfl
  ·rw[if_neg q] at heq ⊢;have q1:decide (x=r)=false:=decide_eq_false q;have R:=y6 @hlc (y6 @he (y6 @hw (y6 @q1 aw)))
   repeat' ((first |refine U.aC (by decide +kernel) rfl fun K hK =>?_|(refine .aA [0,1,3,4,5,7,8,9,16] hK ?_;clear hK K)|(with_reducible refine .done (hK _ ?_);clear hK K)|refine U.of rfl ?_|(with_reducible refine aj.aB (fun h =>?_) (fun h =>?_) <;>try simp only[h])) <;>try simp only[aD,R,simprocAttr])
   all_goals clear R
   refine ⟨i+1,⟨by omega,rfl⟩,by omega,?_⟩;clear hd heq;refine bl.b6 ?_ ?_ ?_ ?_ <;>simp[bG,bJ,bF,bA,al,bH,cw,I.only,ai.only,bp]
   all_goals rfl
 ·have hlc:=eV hlt;rw[zx9 (by omega),ln];have R:=y6 @hlc aw
  repeat' ((first |refine U.aC (by decide +kernel) rfl fun K hK =>?_|(refine .aA [0,1,3,4,5,7,8,9,16] hK ?_;clear hK K)|(with_reducible refine .done (hK _ ?_);clear hK K)|refine U.of rfl ?_|(with_reducible refine aj.aB (fun h =>?_) (fun h =>?_) <;>try simp only[h])) <;>try simp only[aD,R,simprocAttr])
  all_goals clear R
  all_goals rfl
theorem FD(l:List ah)(x:ah)(hl:l.length≤4000000000000):aQ Tryz.prog 136 [enc l,enc x] (enc (decide (x∈l))):=by
 refine aQ.bO Tryz.func136 HE I0 Km (t8 rfl) (fun hwf W0 bE E1 =>?_);simp only[yu,CX,bD,Z5];clear hwf;have f:=FL l x hl;have h:=Bl x l 0;have R:=y6 @h aw
 repeat' ((first |refine U.aC (by decide +kernel) rfl fun K hK =>?_|refine .flat _ (f) rfl ?_|(refine .aA [0,1,3,4] hK ?_;clear hK K)|(with_reducible refine .done (hK _ ?_);clear hK K)|refine U.of rfl ?_|(with_reducible refine aj.aB (fun h =>?_) (fun h =>?_) <;>try simp only[h])) <;>try simp only[aD,R,simprocAttr])
 all_goals clear R
 all_goals rfl
def gy(l:List ah):Item:=match l.getLast? with
 |none=>⟨-1,0⟩
 |some a=>a.aY
theorem Zt(l:List ah)(r:ah):iq l r=(decide (r.aY=⟨(gy l).aM,(gy l).no+1⟩)||(!decide (r.aM≤(gy l).aM) && !(r.no != 0))):=by
 have e:∀ p:Item,decide ((r.aM=p.aM∧r.no=p.no+1)∨(p.aM<r.aM∧r.no=0))=(decide (r.aY=⟨p.aM,p.no+1⟩)||(!decide (r.aM≤p.aM) && !(r.no != 0))):=fun p=>by
  rw[Bool.eq_iff_iff];simp[ah.aY]
 rcases h:l.getLast? with _ | a
 ·have h1:iq l r=decide ((r.aM=-1∧r.no=1)∨(-1<r.aM∧r.no=0)):=by rw[iq,h]
  have h2:gy l=⟨-1,0⟩:=by rw[gy,h]
  rw[h1,h2];exact e ⟨-1,0⟩
 ·have h1:iq l r=decide ((r.aM=a.aM∧r.no=a.no+1)∨(a.aM<r.aM∧r.no=0)):=by rw[iq,h]
  have h2:gy l=a.aY:=by rw[gy,h]
  rw[h1,h2];exact e a.aY
def fy(l:List ah):Bool:=eY (fun out r=>bm r&&iq out r) [] l&&decide (l.length≤60)
theorem xJ{aT:List ah→ah→Bool}{l:List ah}{i:Nat}(h:i<l.length):eY aT (l.take i) (l.drop i)=(aT (l.take i) l[i]&&eY aT (l.take (i+1)) (l.drop (i+1))):=by
 rw[List.drop_eq_getElem_cons h,eY,←gX h]
theorem Aa:I.agg [enc (⟨0,0⟩:Item),.int .i64 0,.int .i64 0,.int .i64 0,enc (⟨0,0⟩:Item),.ak ⟨#[]⟩]=enc (default:ah):=rfl
theorem EU:(∀ A n b rest (q r:Item),eO A (some 2) n [] b (enc q) rest (some (enc r))=av rest (A.aS n (.box (enc q))))∧fJ [.int .i64 0,.int .i64 0] [(0,.int .i64 (-1))]=some [.int .i64 (-1),.int .i64 0]∧I.agg [.int .i64 (-1),.int .i64 0]=enc (⟨-1,0⟩:Item) ∧
  (∀ (x:Item),(I.agg [.int .i64 x.aM,.int .i64 (x.no+1)])=enc (⟨x.aM,x.no+1⟩:Item)) :=
 ⟨fun A n b rest q r=>by rw[fK (e9 _) (by rw[iy];rfl) ((eK _).trans (eK _).symm),fI],rfl,rfl,fun _=>rfl⟩
theorem Ya{l:List ah}{i:Nat}(h:i<l.length):gy (l.take (i+1))=l[i].aY:=by
 rw[gy,gX h,List.getLast?_concat]
theorem Yb{l:List ah}(h:∀ r∈l,bm r=true):-1≤(gy l).aM∧(gy l).aM≤5∧0≤(gy l).no∧(gy l).no≤9999:=by
 rw[gy];cases e:l.getLast? with
 |none=>simp
 |some a =>
  have:=p9 (qa (h a (List.mem_of_getLast? e)));simp only[ah.aY];omega
theorem tK(l:List ah)(hl:l.length≤4000000000000):aQ Tryz.prog 92 [enc (⟨l⟩:cN)] (enc (fy l)):=by
 refine aQ.bO Tryz.func92 Iy JM La (t8 rfl) (fun hwf W0 bE E1 =>?_);simp only[zh,DN,bD];clear hwf;have R:=aw
 repeat' ((first |(with_reducible refine .guard (fun hb =>?_) (fun hb =>?_) <;>try simp only[hb])|refine U.aC (by decide +kernel) rfl fun K hK =>?_|(refine .aA [0,1,2,3,4,5,7,8,9,10,16,19,49] hK ?_;clear hK K)|(with_reducible refine .done (hK _ ?_);clear hK K)|refine U.of rfl ?_|(with_reducible refine aj.aB (fun h =>?_) (fun h =>?_) <;>try simp only[h])) <;>try simp only[aD,R,simprocAttr])
 all_goals clear R
 refine U.loop (fun i:Nat=>aq [(1,.ptr 1 []),(7,enc l),(8,.int .i64 l.length),(9,.int .i64 i)] [(1,.box (enc (⟨l⟩:cN)))]) (fun i=>i≤l.length∧(∀ r∈l.take i,bm r=true)∧fy l=(eY (fun out r=>bm r&&iq out r) (l.take i) (l.drop i)&&decide (l.length≤60))) (fun i=>l.length-i) 0 ⟨zx7 _,by simp,rfl⟩ ?_ ?_
 ·refine bl.b6 ?_ ?_ ?_ ?_ <;>simp[bG,bJ,bF,bA,al,bH,cw,I.only,ai.only,bp]
  all_goals rfl
 rintro i ⟨hi,hk,heq⟩;rw[heq];by_cases hlt:i<l.length
 ·have hlc:=eC hlt;have he:=fun A=>ec (A:=A) 8 hlt rfl;have hw:=ew (i:=i) (by omega);have hnx:=sG hlt hk;have hpi:=Yb hk;have hst:=Zt (l.take i) l[i];rw[xJ hlt] at heq ⊢;have hpz:i=0→gy (l.take i)=⟨-1,0⟩:=fun e=>by subst e;rfl
  have hps:∀ h:0<i,gy (l.take i)=(l[i-1]'(by omega)).aY:=fun h=>by
   have:=Ya (l:=l) (i:=i-1) (by omega)
   rwa [show i-1+1=i by omega] at this
  generalize l[i]=r at *;have f80:=oW r;cases q1:bm r
  ·rw[q1] at f80;have R:=y6 @hlc (y6 @he (y6 @hw (y6 @eA (y6 @ee aw))))
   repeat' ((first |(with_reducible refine .guard (fun hb =>?_) (fun hb =>?_) <;>try simp only[hb])|refine U.aC (by decide +kernel) rfl fun K hK =>?_|refine .flat _ (f80) rfl ?_|(refine .aA [0,1,2,3,4,5,7,8,9,10,16,19,49] hK ?_;clear hK K)|(with_reducible refine .done (hK _ ?_);clear hK K)|refine U.of rfl ?_|(with_reducible refine aj.aB (fun h =>?_) (fun h =>?_) <;>try simp only[h])) <;>try simp only[aD,R,simprocAttr])
   all_goals clear R
   all_goals rfl
  rw[q1] at f80;generalize gy (l.take i)=p at *;have hww:IntKind.i64.wrap (p.no+1)=p.no+1:=dV _ (by omega) (by omega);rw[hst] at heq ⊢;by_cases hz:0<i
  ·have hgt:decide ((i:Int)>0)=true:=decide_eq_true (by omega);have hpe:=fun A=>ec (A:=A) (l:=l) (k:=i-1) 8 (by omega) rfl;have hw1:IntKind.i64.wrap ((i:Int)-1)=((i-1:Nat):Int):=by rw[dV _ (by omega) (by omega)];omega
   have hpm:=(hps hz).symm;clear hps hpz hst;generalize l[i-1]=q at *;cases c1:decide (r.aY=⟨p.aM,p.no+1⟩) <;>cases c2:decide (r.aM≤p.aM) <;>cases c3:(r.no != 0)
   all_goals
    rw[c1,c2,c3] at heq;have R:=y6 @hlc (y6 @he (y6 @hw (y6 @hgt (y6 @hpm (y6 @hpe (y6 @hw1 (y6 @hww (y6 @c1 (y6 @c2 (y6 @c3 (y6 @Aa (y6 @eA (y6 @pt (y6 @ee (y6 @EU (y6 @nL aw))))))))))))))))
    repeat' ((first |(with_reducible refine .guard (fun hb =>?_) (fun hb =>?_) <;>try simp only[hb])|refine U.aC (by decide +kernel) rfl fun K hK =>?_|refine .flat _ (f80) rfl ?_|(refine .aA [0,1,2,3,4,5,7,8,9,10,16,19,49] hK ?_;clear hK K)|(with_reducible refine .done (hK _ ?_);clear hK K)|refine U.of rfl ?_|(with_reducible refine aj.aB (fun h =>?_) (fun h =>?_) <;>try simp only[h])) <;>try simp only[aD,R,simprocAttr])
    all_goals clear R
    all_goals first
     |rfl
     |(refine ⟨i+1,⟨by omega,hnx q1,by rfl⟩,by omega,?_⟩;clear heq hnx;(refine bl.b6 ?_ ?_ ?_ ?_ <;>simp[bG,bJ,bF,bA,al,bH,cw,I.only,ai.only,bp]);all_goals rfl)
  ·have hgt:decide ((i:Int)>0)=false:=decide_eq_false (by omega);have hpm:=(hpz (by omega)).symm;clear hps hpz hst;cases c1:decide (r.aY=⟨p.aM,p.no+1⟩) <;>cases c2:decide (r.aM≤p.aM) <;>cases c3:(r.no != 0)
   all_goals
    rw[c1,c2,c3] at heq;have R:=y6 @hlc (y6 @he (y6 @hw (y6 @hgt (y6 @hpm (y6 @hww (y6 @c1 (y6 @c2 (y6 @c3 (y6 @Aa (y6 @eA (y6 @pt (y6 @ee (y6 @EU (y6 @nL aw))))))))))))))
    repeat' ((first |(with_reducible refine .guard (fun hb =>?_) (fun hb =>?_) <;>try simp only[hb])|refine U.aC (by decide +kernel) rfl fun K hK =>?_|refine .flat _ (f80) rfl ?_|(refine .aA [0,1,2,3,4,5,7,8,9,10,16,19,49] hK ?_;clear hK K)|(with_reducible refine .done (hK _ ?_);clear hK K)|refine U.of rfl ?_|(with_reducible refine aj.aB (fun h =>?_) (fun h =>?_) <;>try simp only[h])) <;>try simp only[aD,R,simprocAttr])
    all_goals clear R
    all_goals first
     |rfl
     |(refine ⟨i+1,⟨by omega,hnx q1,by rfl⟩,by omega,?_⟩;clear heq hnx;(refine bl.b6 ?_ ?_ ?_ ?_ <;>simp[bG,bJ,bF,bA,al,bH,cw,I.only,ai.only,bp]);all_goals rfl)
 ·have hlc:=eV hlt;rw[zx9 (by omega),eY];have hle:decide ((l.length:Int)≤60)=decide (l.length≤60):=by rw[decide_eq_decide];omega
  have R:=y6 @hlc (y6 @hle aw)
  repeat' ((first |(with_reducible refine .guard (fun hb =>?_) (fun hb =>?_) <;>try simp only[hb])|refine U.aC (by decide +kernel) rfl fun K hK =>?_|(refine .aA [0,1,2,3,4,5,7,8,9,10,16,19,49] hK ?_;clear hK K)|(with_reducible refine .done (hK _ ?_);clear hK K)|refine U.of rfl ?_|(with_reducible refine aj.aB (fun h =>?_) (fun h =>?_) <;>try simp only[h])) <;>try simp only[aD,R,simprocAttr])
  all_goals clear R
  all_goals rfl
theorem tq(l:List ah)(m:Nat):(l++List.replicate m ct).take l.length=l:=List.take_left
theorem tL(l:List ah)(hl:l.length≤1000):aQ Tryz.prog 93 [enc l] (enc l):=by
 refine aQ.bO Tryz.func93 zu zC zN (t8 rfl) (fun hwf W0 bE E1 =>?_);simp only[ug,vZ,bD];refine .dE (by decide +kernel) fun K hK =>?_;simp only[u2,aX,simprocAttr];refine .done (hK _ ?_);clear hK K;refine U.seq (U.seq ?_);by_cases hn:l=[]
 ·subst hn;refine .gS (by decide +kernel) fun K hK =>?_;simp only[pE,aX,simprocAttr];simp only[tu,List.isEmpty_nil,ou];refine .any rfl fun b _ =>?_
  try simp only[aX,simprocAttr]
  generalize (b==0)=t;cases t
  ·refine .done (hK _ ?_);clear hK K;try simp only[cH]
   refine U.gM ?_;simp only[aj,aX,simprocAttr];refine ⟨fun h =>?_,fun h =>?_⟩
   ·cases h
   refine U.skip ?_;try simp only[cH,simprocAttr]
   refine .dE (by decide +kernel) fun K hK =>?_;simp only[pF,aX,simprocAttr]
   try simp only[gC,kd,aX,simprocAttr]
   refine .done (hK _ ?_);clear hK K;refine U.ret ?_;simp only[aX,simprocAttr]
   all_goals rfl
  ·refine .done (hK _ ?_);clear hK K;refine U.gM ?_;simp only[aj,aX,simprocAttr];refine ⟨fun h =>?_,fun h =>?_⟩
   ·refine .dE (by decide +kernel) fun K hK =>?_;simp only[u3,aX,simprocAttr];refine .done (hK _ ?_);clear hK K;refine U.ret ?_;simp only[cH,aX,simprocAttr]
    all_goals rfl
   ·cases h
 ·have hu:ja (enc l)=false:=by rw[tu];simpa using hn
  refine .gS (by decide +kernel) fun K hK =>?_;simp only[pE,aX,simprocAttr]
  try simp only[hu,B6 _ l hn,aX,simprocAttr]
  refine .done (hK _ ?_);clear hK K;try simp only[cH]
  refine U.gM ?_;simp only[aj,aX,simprocAttr];refine ⟨fun h =>?_,fun h =>?_⟩
  ·cases h
  refine U.skip ?_;try simp only[cH,simprocAttr]
  refine .dE (by decide +kernel) fun K hK =>?_;simp only[pF,aX,simprocAttr]
  try simp only[gC,kd,aX,simprocAttr]
  refine aZ.qX ct rfl hn rfl (by omega) (by simp only[maxLen];omega) fun m =>?_
  try simp only[aX,simprocAttr]
  refine .done (hK _ ?_);clear hK K;refine U.ret ?_;simp only[aX,simprocAttr]
  try simp only[mE (α:=ah) (sz:=8) rfl,tq,aX,simprocAttr]
def ur(l:List ah):Int:=if fy l then 0 else 81
def Bn(g:ah):cd:=fun r os'=>∃ q,r=.view 25 [] 8 0 1∧os'=eR 25 [g] q
theorem EF(A:ab):gB A 8 (some (.int .i64 0)) none none (.c0 8)=some (.slice 8 [])∧gB A 8 (some (.int .i64 0)) none none (.nils 8)=some (.slice 8 []):=by
 constructor <;>simp[gB,gV,gq]
theorem Fu(x:I)(hx:x=.nils 8∨x=.c0 8)(g:ah):eT Tryz.prog 101 [x,enc (0:Int),enc [g]] [] (Bn g):=by
 rcases hx with rfl | rfl
 ·refine eT.bO Tryz.func101 ui uk uw (t8 rfl) (t8 rfl) (fun m hm=>by simp[al,aE] at hm) (fun hwf W0 bE E1 =>?_);simp only[rf,sP,bD,Z5,Nat.reduceAdd];refine .dE (by decide +kernel) fun K hK =>?_;simp only[rE,aX];refine .done (hK _ ?_);clear hK K;refine .dE (by decide +kernel) fun K hK =>?_;simp only[rF,aX,Nat.reduceEqDiff,reduceIte]
  try simp only[zy0,(EF _).2,aX]
  refine .done (hK _ ?_);clear hK K;refine .dE (by decide +kernel) fun K hK =>?_;simp only[rG,aX,Nat.reduceEqDiff,reduceIte]
  try simp only[typR,jb,jT,iS,aX,Nat.reduceEqDiff,reduceIte,Int.reduceBNe,Int.reduceBEq]
  refine .done (hK _ ?_);clear hK K;refine U.seq (U.seq ?_);refine .gS (by decide +kernel) fun K hK =>?_;simp only[rH,aX,Nat.reduceEqDiff,reduceIte]
  try simp only[typR,jb,jT,iS,aX,Nat.reduceEqDiff,reduceIte,Int.reduceBNe,Int.reduceBEq]
  refine .done (hK _ ?_);clear hK K;try simp only[cH]
  refine U.gM ?_;simp only[aj,aX,Nat.reduceEqDiff,reduceIte];refine ⟨fun h =>?_,fun h =>?_⟩
  ·first | cases h | simp at h
  refine U.skip ?_;try simp only[cH]
  refine .dE (by decide +kernel) fun K hK =>?_;simp only[rI,aX,Nat.reduceEqDiff,reduceIte]
  try simp only[typR,jb,jT,iS,aX,Nat.reduceEqDiff,reduceIte,Int.reduceBNe,Int.reduceBEq]
  refine .done (hK _ ?_);clear hK K;refine U.seq (U.seq ?_);refine .gS (by decide +kernel) fun K hK =>?_;simp only[rJ,aX,Nat.reduceEqDiff,reduceIte,Int.reduceBEq]
  try simp only[typR,jb,jT,iS,aX,Nat.reduceEqDiff,reduceIte,Int.reduceBNe,Int.reduceBEq]
  refine .done (hK _ ?_);clear hK K;try simp only[cH]
  refine U.gM ?_;simp only[aj,aX,Nat.reduceEqDiff,reduceIte];refine ⟨fun h =>?_,fun h =>?_⟩
  case refine_2.refine_2=>first | cases h | simp at h
  refine .dE (by decide +kernel) fun K hK =>?_;simp only[pD,aX,Nat.reduceEqDiff,reduceIte]
  try simp only[kd]
  refine aZ.Gz (esz:=8) ct (l:=[g]) rfl (by simp) rfl (by simp) (by simp[maxLen]) fun q =>?_
  try simp only[aX,Nat.reduceEqDiff,reduceIte]
  refine .done (hK _ ?_);clear hK K;refine U.ret ?_;simp only[cH,jY];exact ⟨eR 25 [g] q,[.view 25 [] 8 0 1],oa rfl (fun p=>fo p _),⟨⟨_,rfl,.inl ⟨rfl,rfl,rfl⟩⟩,trivial⟩,q,rfl,rfl⟩
 ·refine eT.bO Tryz.func101 ui uk uw (t8 rfl) (t8 rfl) (fun m hm=>by simp[al,aE] at hm) (fun hwf W0 bE E1 =>?_);simp only[rf,sP,bD,Z5,Nat.reduceAdd];refine .dE (by decide +kernel) fun K hK =>?_;simp only[rE,aX];refine .done (hK _ ?_);clear hK K;refine .dE (by decide +kernel) fun K hK =>?_;simp only[rF,aX,Nat.reduceEqDiff,reduceIte]
  try simp only[zy0,(EF _).1,aX]
  refine .done (hK _ ?_);clear hK K;refine .dE (by decide +kernel) fun K hK =>?_;simp only[rG,aX,Nat.reduceEqDiff,reduceIte]
  try simp only[typR,jb,jT,iS,aX,Nat.reduceEqDiff,reduceIte,Int.reduceBNe,Int.reduceBEq]
  refine .done (hK _ ?_);clear hK K;refine U.seq (U.seq ?_);refine .gS (by decide +kernel) fun K hK =>?_;simp only[rH,aX,Nat.reduceEqDiff,reduceIte]
  try simp only[typR,jb,jT,iS,aX,Nat.reduceEqDiff,reduceIte,Int.reduceBNe,Int.reduceBEq]
  refine .done (hK _ ?_);clear hK K;try simp only[cH]
  refine U.gM ?_;simp only[aj,aX,Nat.reduceEqDiff,reduceIte];refine ⟨fun h =>?_,fun h =>?_⟩
  ·first | cases h | simp at h
  refine U.skip ?_;try simp only[cH]
  refine .dE (by decide +kernel) fun K hK =>?_;simp only[rI,aX,Nat.reduceEqDiff,reduceIte]
  try simp only[typR,jb,jT,iS,aX,Nat.reduceEqDiff,reduceIte,Int.reduceBNe,Int.reduceBEq]
  refine .done (hK _ ?_);clear hK K;refine U.seq (U.seq ?_);refine .gS (by decide +kernel) fun K hK =>?_;simp only[rJ,aX,Nat.reduceEqDiff,reduceIte,Int.reduceBEq]
  try simp only[typR,jb,jT,iS,aX,Nat.reduceEqDiff,reduceIte,Int.reduceBNe,Int.reduceBEq]
  refine .done (hK _ ?_);clear hK K;try simp only[cH]
  refine U.gM ?_;simp only[aj,aX,Nat.reduceEqDiff,reduceIte];refine ⟨fun h =>?_,fun h =>?_⟩
  case refine_2.refine_2=>first | cases h | simp at h
  refine .dE (by decide +kernel) fun K hK =>?_;simp only[pD,aX,Nat.reduceEqDiff,reduceIte]
  try simp only[kd]
  refine aZ.qX (esz:=8) ct (l:=[g]) rfl (by simp) rfl (by simp) (by simp[maxLen]) fun q =>?_
  try simp only[aX,Nat.reduceEqDiff,reduceIte]
  refine .done (hK _ ?_);clear hK K;refine U.ret ?_;simp only[cH,jY];exact ⟨eR 25 [g] q,[.view 25 [] 8 0 1],oa rfl (fun p=>fo p _),⟨⟨_,rfl,.inl ⟨rfl,rfl,rfl⟩⟩,trivial⟩,q,rfl,rfl⟩
theorem df.Cp{aI:Bool}{ρ:List (Nat×Nat)}{k:Nat}{x:ai}{os0:List (Nat×ai)}{r c:I}(h1:∀ p,c.only p=true)(h2:aI=true→c.cX=true)(h3:r.only (al [(k,.box c)])=true)(h4:aI=true→r.cX=true):df aI ρ [(k,x)] os0 r [(k,.box c)]:=by
 refine ⟨fun m x h =>?_,fun m m' h h' _ =>?_,fun m h =>?_,fun m h h' =>?_,h3,h4⟩
 ·simp only[aE] at h;split at h
  ·simp only[v6] at h;subst h;exact ⟨h1 _,rfl,h2⟩
  ·cases h
 ·rw[fP.1 h,fP.1 h']
 ·rw[fP.1 h];exact fP.2 rfl
 ·rw[fP.1 h] at h';have:al [(k,x)] k=true:=fP.2 rfl;rw[this] at h';cases h'
theorem df.oP{aI:Bool}{ρ:List (Nat×Nat)}{k k' d d':Nat}{x:ai}{os0:List (Nat×ai)}{r c c':I}(hk:bg ρ k=d)(hk':bg ρ k'=d')(hd:d≠d')(hne:k≠k')(h1:∀ p,c.only p=true)(h2:aI=true→c.cX=true)(h1':∀ p,c'.only p=true)(h2':aI=true→c'.cX=true)
  (h3:r.only (al [(k,.box c),(k',.box c')])=true) (h4:aI=true→r.cX=true) (h5:aE os0 d=none) (h6:d<1000000):df aI ρ [(k',x)] os0 r [(k,.box c),(k',.box c')]:=by
 have oP:∀ m,al [(k,ai.box c),(k',ai.box c')] m=true→m=k∨m=k':=fun m h=>by
  simp only[al,aE] at h;split at h
  ·rename_i e;exact .inl e
  ·split at h
   ·rename_i e;exact .inr e
   ·cases h
 refine ⟨fun m y h =>?_,fun m m' h h' e =>?_,fun m h =>?_,fun m h h' =>?_,h3,h4⟩
 ·simp only[aE] at h;split at h
  ·simp only[v6] at h;subst h;exact ⟨h1 _,rfl,h2⟩
  ·split at h
   ·simp only[v6] at h;subst h;exact ⟨h1' _,rfl,h2'⟩
   ·cases h
 ·rcases oP m h with rfl | rfl <;>rcases oP m' h' with rfl | rfl
  ·rfl
  ·rw[hk,hk'] at e;exact absurd e hd
  ·rw[hk,hk'] at e;exact absurd e.symm hd
  ·rfl
 ·rw[fP.1 h];simp[al,aE,Ne.symm hne]
 ·rcases oP m h with rfl | rfl
  ·rw[hk];exact ⟨h5,h6⟩
  ·have:al [(m,x)] m=true:=fP.2 rfl;rw[this] at h';cases h'
def jg(l:List ah)(r:ah):List ah×Int :=
 if fy l=false then ([],81) else if bm r=false then ([],80)
 else if hE l r.aY=true then (if l.getD (eE l r.aY) default=r then (l,0) else ([],82))
 else if (dS l r.aM:Int)<r.no then ([],83) else if l.length=60 then ([],2) else (ga l (eE l r.aY) r,0)
theorem qS{aT:List ah→ah→Bool} : ∀ {l out:List ah},eY (fun out r=>bm r&&aT out r) out l=true↔(∀ r∈l,bm r=true)∧eY aT out l=true
 | [],_=>by simp[eY]
 |r::l,out=>by
  simp only[eY,Z0,qS (l:=l),zy8,forall_eq_or_imp];constructor
  ·rintro ⟨⟨h1,h2⟩,h3,h4⟩;exact ⟨⟨h1,h3⟩,h2,h4⟩
  ·rintro ⟨⟨h1,h3⟩,h2,h4⟩;exact ⟨⟨h1,h2⟩,h3,h4⟩
structure Gb (l:List ah):Prop where
 ok:∀ r∈l,bm r=true
 j4:mr l
 len:l.length≤60
 step:eY iq [] l=true
theorem vK{r:ah}(h:bm r=true):0≤r.aM∧0≤r.no:=by have:=p9 (qa h);omega
theorem mw{l:List ah}(h:fy l=true):Gb l:=by
 simp only[fy,Z0,decide_eq_true_eq] at h;obtain ⟨h1,h2⟩:=h;obtain ⟨h3,h4⟩:=qS.1 h1;refine ⟨h3,?_,h2,h4⟩;have:=ya l [] trivial (fun r hr=>vK (h3 r hr)) h4 List.Pairwise.nil;simpa using this
theorem dp:(∀ A n b rest,eO A (some 1) n [] b (.agg [.nils 8]) rest (some (.agg [.nils 8]))=av rest (A.aS n (.box (.agg [.nils 8])))) ∧
  (∀ A n b rest m p lo k,eO A (some 1) n [] b (.agg [.view m p 8 lo k]) rest (some (.agg [.nils 8]))=av rest (A.aS n (.box (.agg [.view m p 8 lo k])))) ∧
  (∀ A n b rest (l:List ah),eO A (some 1) n [] b (.agg [enc l]) rest (some (.agg [.nils 8]))=av rest (A.aS n (.box (.agg [enc l])))) ∧
  (∀ l:List ah,fJ [.nils 8] [(0,enc l)]=some [enc l])∧(∀ m p lo k,fJ [.nils 8] [(0,.view m p 8 lo k)]=some [.view m p 8 lo k])∧(∀ l:List ah,b8 (some 1) (.agg [enc l])=true)∧b8 (some 1) (.agg [.nils 8])=true∧(∀ m p lo k,b8 (some 1) (.agg [.view m p 8 lo k])=true) :=
 ⟨fun A n b rest=>by rw[fK (s:=some 1) (v:=.agg [.nils 8]) (old:=.agg [.nils 8]) rfl rfl rfl,fI],fun A n b rest m p lo k=>by rw[fK (s:=some 1) (v:=.agg [.view m p 8 lo k]) (old:=.agg [.nils 8]) rfl rfl rfl,fI],
  fun A n b rest l=>by rw[fK (s:=some 1) (v:=.agg [enc l]) (old:=.agg [.nils 8]) rfl rfl rfl,fI],fun _=>rfl,fun _ _ _ _=>rfl,fun _=>rfl,rfl,fun _ _ _ _=>rfl⟩
theorem FZ(l:List ah)(r:ah)(hl:l.length≤4000000000000):aQ Tryz.prog 44 [enc (⟨l⟩:cN),enc r] (.tuple [enc (⟨(jg l r).1⟩:cN),enc (jg l r).2]):=by
 refine aQ.bO Tryz.func44 Ia Js KP (t8 rfl) (fun hwf W0 bE E1 =>?_);simp only[yW,Dr,bD,Z5];clear hwf;have f92:=tK l hl;simp only[jg];cases q1:fy l
 ·rw[q1] at f92;simp only[if_true];have R:=y6 @dp aw
  repeat' ((first |(with_reducible refine .guard (fun hb =>?_) (fun hb =>?_) <;>try simp only[hb])|refine U.aC (by decide +kernel) rfl fun K hK =>?_|refine .flat _ (f92) rfl ?_|(refine .aA [0,1,2,3,4,5,6,7,8,13,25,40,43,56] hK ?_;clear hK K)|(with_reducible refine .done (hK _ ?_);clear hK K)|refine U.of rfl ?_|(with_reducible refine aj.aB (fun h =>?_) (fun h =>?_) <;>try simp only[h])) <;>try simp only[aD,R,simprocAttr])
  all_goals clear R
  all_goals rfl
 rw[q1] at f92;have hb:=mw q1;have f80:=oW r;simp only[Bool.true_eq_false,if_false];cases q2:bm r
 ·rw[q2] at f80;simp only[if_true];have R:=y6 @dp aw
  repeat' ((first |(with_reducible refine .guard (fun hb =>?_) (fun hb =>?_) <;>try simp only[hb])|refine U.aC (by decide +kernel) rfl fun K hK =>?_|refine .flat _ (f92) rfl ?_|refine .flat _ (f80) rfl ?_|(refine .aA [0,1,2,3,4,5,6,7,8,13,25,40,43,56] hK ?_;clear hK K)|(with_reducible refine .done (hK _ ?_);clear hK K)|refine U.of rfl ?_|(with_reducible refine aj.aB (fun h =>?_) (fun h =>?_) <;>try simp only[h])) <;>try simp only[aD,R,simprocAttr])
  all_goals clear R
  all_goals rfl
 rw[q2] at f80;simp only[Bool.true_eq_false,if_false];have hlen:=hb.len;have f94:=xv l r.aY hb.j4 (by omega);have hpl:=X7 l r.aY;have hcl:=tL l (by omega);cases q3:hE l r.aY
 rotate_left
 ·rw[q3] at f94;obtain ⟨hp,hat⟩:=(rT hb.j4 r.aY).1 q3;simp only[if_true];have hg:l.getD (eE l r.aY) default=l[eE l r.aY]:=by simp[zz5,hp]
  rw[hg];have he:=fun A=>ec (A:=A) 8 hp rfl;generalize l[eE l r.aY]=x at *;generalize eE l r.aY=p at *;by_cases q4:x=r
  ·have q4':decide (x=r)=true:=decide_eq_true q4;rw[if_pos q4];have R:=y6 @he (y6 @q4' (y6 @dp aw))
   repeat' ((first |(with_reducible refine .guard (fun hb =>?_) (fun hb =>?_) <;>try simp only[hb])|refine U.aC (by decide +kernel) rfl fun K hK =>?_|refine .flat _ (f92) rfl ?_|refine .flat _ (f80) rfl ?_|refine .lead _ (f94) ?_|refine .lead _ (hcl) ?_|(refine .aA [0,1,2,3,4,5,6,7,8,13,25,40,43,56] hK ?_;clear hK K)|(with_reducible refine .done (hK _ ?_);clear hK K)|refine U.of rfl ?_|(with_reducible refine aj.aB (fun h =>?_) (fun h =>?_) <;>try simp only[h])) <;>try simp only[aD,R,simprocAttr])
   all_goals clear R
   all_goals rfl
  ·have q4':decide (x=r)=false:=decide_eq_false q4;rw[if_neg q4];have R:=y6 @he (y6 @q4' (y6 @dp aw))
   repeat' ((first |(with_reducible refine .guard (fun hb =>?_) (fun hb =>?_) <;>try simp only[hb])|refine U.aC (by decide +kernel) rfl fun K hK =>?_|refine .flat _ (f92) rfl ?_|refine .flat _ (f80) rfl ?_|refine .lead _ (f94) ?_|refine .lead _ (hcl) ?_|(refine .aA [0,1,2,3,4,5,6,7,8,13,25,40,43,56] hK ?_;clear hK K)|(with_reducible refine .done (hK _ ?_);clear hK K)|refine U.of rfl ?_|(with_reducible refine aj.aB (fun h =>?_) (fun h =>?_) <;>try simp only[h])) <;>try simp only[aD,R,simprocAttr])
   all_goals clear R
   all_goals rfl
 rw[q3] at f94;simp only[Z4,if_false];have hin:pI l:=fun x hx=>kq (hb.ok x hx);have f100:=w9 l hl hin;have hix:=r2 l (kq q2);by_cases q5:(dS l r.aM:Int)<r.no
 ·have q5':decide ((dS l r.aM:Int)<r.no)=true:=decide_eq_true q5;rw[if_pos q5];have R:=y6 @hix (y6 @q5' (y6 @im (y6 @dp aw)))
  repeat' ((first |(with_reducible refine .guard (fun hb =>?_) (fun hb =>?_) <;>try simp only[hb])|refine U.aC (by decide +kernel) rfl fun K hK =>?_|refine .flat _ (f92) rfl ?_|refine .flat _ (f80) rfl ?_|refine .lead _ (f94) ?_|refine .lead _ (f100) ?_|(refine .aA [0,1,2,3,4,5,6,7,8,13,25,40,43,56] hK ?_;clear hK K)|(with_reducible refine .done (hK _ ?_);clear hK K)|refine U.of rfl ?_|(with_reducible refine aj.aB (fun h =>?_) (fun h =>?_) <;>try simp only[h])) <;>try simp only[aD,R,simprocAttr])
  all_goals clear R
  all_goals rfl
 have q5':decide ((dS l r.aM:Int)<r.no)=false:=decide_eq_false q5;rw[if_neg q5];by_cases q6:l.length=60
 ·have q6':((l.length:Int)==60)=true:=by rw[beq_iff_eq];omega
  rw[if_pos q6];have R:=y6 @hix (y6 @q5' (y6 @q6' (y6 @im (y6 @dp aw))))
  repeat' ((first |(with_reducible refine .guard (fun hb =>?_) (fun hb =>?_) <;>try simp only[hb])|refine U.aC (by decide +kernel) rfl fun K hK =>?_|refine .flat _ (f92) rfl ?_|refine .flat _ (f80) rfl ?_|refine .lead _ (f94) ?_|refine .lead _ (f100) ?_|(refine .aA [0,1,2,3,4,5,6,7,8,13,25,40,43,56] hK ?_;clear hK K)|(with_reducible refine .done (hK _ ?_);clear hK K)|refine U.of rfl ?_|(with_reducible refine aj.aB (fun h =>?_) (fun h =>?_) <;>try simp only[h])) <;>try simp only[aD,R,simprocAttr])
  all_goals clear R
  all_goals rfl
 have q6':((l.length:Int)==60)=false:=by rw[beq_eq_false_iff_ne];omega
 rw[if_neg q6];have hbs:gr 8 (some [enc r])=some (enc [r]):=nM 8 r rfl;have R:=y6 @hix (y6 @q5' (y6 @q6' (y6 @hbs (y6 @im (y6 @dp aw)))))
 repeat' ((first |(with_reducible refine .guard (fun hb =>?_) (fun hb =>?_) <;>try simp only[hb])|(refine U.lv (gs:=uW) [101] [(2,[2]),(3,[3]),(4,[4]),(62,[2])] [0,1,3,4,5,2,6,7,8,9] (by decide +kernel) (dG.of (by simp[jl,bH,vr,I.only])) fun K hK =>?_;simp only[jW,uW,List.getD_cons_zero,List.getD_cons_succ,R,simprocAttr])|refine U.aC (by decide +kernel) rfl fun K hK =>?_|refine .flat _ (f92) rfl ?_|refine .flat _ (f80) rfl ?_|refine .lead _ (f94) ?_|refine .lead _ (f100) ?_|(refine .aA [0,1,2,3,4,5,6,7,8,13,25,40,43,56] hK ?_;clear hK K)|(with_reducible refine .done (hK _ ?_);clear hK K)|refine U.of rfl ?_|(with_reducible refine aj.aB (fun h =>?_) (fun h =>?_) <;>try simp only[h])) <;>try simp only[aD,R,simprocAttr])
 all_goals clear R
 obtain ⟨au,hL⟩:∃ au,au=ga l (eE l r.aY) r:=⟨_,rfl⟩
 have hLn:l.length+1=au.length:=by rw[hL,VT r hpl]
 have hfin:∀ q,jk 8 0 (l.length+1) (some ((au++List.replicate q ct).map enc))=some (enc au):=fun q=>by
  rw[mE (α:=ah) (sz:=8) rfl,hLn,tq]
 refine .bB [(7,64)] [enc l] (mA l) (qI l (by omega)) eP.nil ⟨.inl ⟨(gJ _ _).symm,bp _ _,e9 _⟩,trivial⟩ ?_ ?_
 ·rintro x os' (⟨_,h | h,rfl⟩ | ⟨_,k,rfl,rfl⟩)
  ·subst h;exact df.nil (fun _=>rfl) (fun h=>by cases h)
  ·subst h;exact df.nil (fun _=>rfl) (fun h=>by cases h)
  ·exact df.pZ (fun p=>fo p _) (fun h=>by cases h) rfl (fun h=>by cases h) rfl (by decide)
 rintro x os' (⟨hn,h,rfl⟩ | ⟨hn,k,rfl,rfl⟩)
 ·have hren:x.aO (bg [(7,64)])=x∧x.cD=true∧∀ q,x.only q=true:=by rcases h with rfl | rfl <;>exact ⟨by simp only[I.aO],rfl,fun _=>rfl⟩
  have hren2:x.aO (bg [(25,68)])=x:=by rcases h with rfl | rfl <;>simp only[I.aO]
  have hpos:eE l r.aY=0:=by rw[hn];rfl
  rw[hren.1,hpos]
  try simp only[kD,zz3,aw,aX,simprocAttr]
  refine .bB [(25,68)] [x,enc (0:Int),enc [r]] (Bn r) (Fu x h r) eP.nil ⟨.inl ⟨hren2.symm,hren.2.2 _,hren.2.1⟩,.inl ⟨rfl,rfl,rfl⟩,.inl ⟨(gJ _ _).symm,bp _ _,e9 _⟩,trivial⟩ ?_ ?_
  ·rintro x os' ⟨k,rfl,rfl⟩;exact df.pZ (fun p=>fo p _) (fun h=>by cases h) rfl (fun h=>by cases h) rfl (by decide)
  ·rintro x os' ⟨k,rfl,rfl⟩;have hLg:[r]=au:=by rw[hL,hpos,hn];rfl
   have hf1:=hfin k;rw[hn] at hf1;simp only[zx1,Z5] at hf1;rw[hLg]
   try simp only[eR,kD,jv,zz2,zz3,dp,aX,simprocAttr]
   refine .done (hK _ ?_);clear hK K;refine U.ret ?_;simp only[aX,simprocAttr]
   try simp only[hf1,dp,aX,simprocAttr]
   rw[←hL];rfl
 ·try simp only[eR,kD,jv,zz2,zz3,aw,aX,simprocAttr]
  refine .vF false [(1000000,64),(25,68),(40,69)] (eR 1000000 l k) [.view 1000000 [] 8 0 l.length,enc (eE l r.aY:Int),enc [r]] (Bo l (eE l r.aY) r k) rfl (Ft l (eE l r.aY) r k hpl hn (by omega)) ⟨?_,?_⟩ ⟨.inl ⟨?_,?_,rfl⟩,.inl ⟨rfl,rfl,rfl⟩,.inl ⟨(gJ _ _).symm,bp _ _,e9 _⟩,trivial⟩ ?_ ?_
  ·intro n x h;simp only[eR,aE] at h;split at h
   ·rename_i hn';subst hn';simp only[v6] at h;subst h;exact ⟨by simp only[kD,jv,aX,simprocAttr],fo _ _,rfl⟩
   ·cases h
  ·intro a b ha hb _;rw[Go.Abs.fP.1 ha,Go.Abs.fP.1 hb]
  ·try simp only[kD,simprocAttr]
  ·exact Go.Abs.fP.2 rfl
  ·rintro x os' (⟨q,rfl,rfl⟩ | ⟨d,q,rfl | rfl,rfl,rfl⟩)
   ·exact df.Cp (fun p=>fo p _) (fun h=>by cases h) rfl (fun h=>by cases h)
   ·exact df.oP rfl rfl (by decide) (by decide) (fun p=>fo p _) (fun h=>by cases h) (fun p=>fo p _) (fun h=>by cases h) rfl (fun h=>by cases h) rfl (by decide)
   ·exact df.oP rfl rfl (by decide) (by decide) (fun p=>fo p _) (fun h=>by cases h) (fun p=>fo p _) (fun h=>by cases h) rfl (fun h=>by cases h) rfl (by decide)
  ·rintro x os' (⟨q,rfl,rfl⟩ | ⟨d,q,rfl | rfl,rfl,rfl⟩)
   all_goals
    rw[←hL];have hf1:=hfin q
    try simp only[eR,kD,jv,zz2,zz3,dp,aX,simprocAttr]
    refine .done (hK _ ?_);clear hK K;refine U.ret ?_;simp only[aX,simprocAttr]
    try simp only[hf1,dp,aX,simprocAttr]
    rw[←hL];rfl
end Go.Proofs.YtoffnnjbplgnaaaGreatDoor
namespace Go.Proofs.YtoffnnjbplgnaaaGreatDoor
open Go Go.Abs Go.Shelf Go.RowKit Go.Sort Go.Proofs
open Go.Abs.Enc (enc)
def Wp:Go.Shelf.Ren:=⟨fun | 122=>161 | 215=>175 | n=>n,fun | 3=>3 | 4=>4 | n=>n,fun | n=>n⟩
theorem Wo:Go.Proofs.Lays.n122 Tryz.prog Wp := {
 mixed:=by kernel_rfl
 f122:=Tryz.func161.trans (congrArg some (by kernel_rfl))
 f215:=Tryz.func175.trans (congrArg some (by kernel_rfl))
 t3:=Tryz.underlying3
 a3:=Tryz.isAgg3
 z3:=Tryz.sizeOf3
 v3:=Tryz.zeroValue3
 t4:=Tryz.underlying4
 a4:=Tryz.isAgg4
 z4:=Tryz.sizeOf4
 v4:=Tryz.zeroValue4 }
def vl:Go.Shelf.Ren:=⟨fun | 6=>141 | 15=>163 | 14=>162 | 28=>184 | 29=>185 | 20=>176 | 21=>177 | 22=>178 | 23=>179 | 24=>180 | 25=>181 | 26=>182 | 27=>183 | 46=>199 | 47=>200 | 48=>201 | 49=>202 | 50=>203 | 57=>213 | n=>n,fun | 22=>23 | 24=>50 | 25=>188 | 3=>3 | 39=>208 | 0=>0 | 53=>225 | 55=>227 | 4=>4 | 46=>219 | 45=>218 | 50=>144 | 5=>5 | 9=>9 | 66=>243 | 70=>247 | 76=>258 | 77=>259 | n=>n,fun | n=>n⟩
theorem BK:Go.Proofs.SlLaysF0.n6 Tryz.prog vl := {
 mixed:=by kernel_rfl
 f6 := ⟨ "slices.SortFunc[[]pinfold/api.Record,pinfold/api.Record]", by decide, Tryz.func141.trans (congrArg some (by kernel_rfl))⟩
 f14 := ⟨ "slices.pdqsortCmpFunc[pinfold/api.Record]", by decide, Tryz.func162.trans (congrArg some (by kernel_rfl))⟩
 f15:=Tryz.func163.trans (congrArg some (by kernel_rfl))
 f20 := ⟨ "slices.insertionSortCmpFunc[pinfold/api.Record]", by decide, Tryz.func176.trans (congrArg some (by kernel_rfl))⟩
 f21 := ⟨ "slices.heapSortCmpFunc[pinfold/api.Record]", by decide, Tryz.func177.trans (congrArg some (by kernel_rfl))⟩
 f22 := ⟨ "slices.breakPatternsCmpFunc[pinfold/api.Record]", by decide, Tryz.func178.trans (congrArg some (by kernel_rfl))⟩
 f23 := ⟨ "slices.choosePivotCmpFunc[pinfold/api.Record]", by decide, Tryz.func179.trans (congrArg some (by kernel_rfl))⟩
 f24 := ⟨ "slices.reverseRangeCmpFunc[pinfold/api.Record]", by decide, Tryz.func180.trans (congrArg some (by kernel_rfl))⟩
 f25 := ⟨ "slices.partialInsertionSortCmpFunc[pinfold/api.Record]", by decide, Tryz.func181.trans (congrArg some (by kernel_rfl))⟩
 f26 := ⟨ "slices.partitionEqualCmpFunc[pinfold/api.Record]", by decide, Tryz.func182.trans (congrArg some (by kernel_rfl))⟩
 f27 := ⟨ "slices.partitionCmpFunc[pinfold/api.Record]", by decide, Tryz.func183.trans (congrArg some (by kernel_rfl))⟩
 f28:=Tryz.func184.trans (congrArg some (by kernel_rfl))
 f29:=Tryz.func185.trans (congrArg some (by kernel_rfl))
 f46 := ⟨ "slices.siftDownCmpFunc[pinfold/api.Record]", by decide, Tryz.func199.trans (congrArg some (by kernel_rfl))⟩
 f47:=Tryz.func200.trans (congrArg some (by kernel_rfl))
 f48:=Tryz.func201.trans (congrArg some (by kernel_rfl))
 f49 := ⟨ "slices.medianAdjacentCmpFunc[pinfold/api.Record]", by decide, Tryz.func202.trans (congrArg some (by kernel_rfl))⟩
 f50 := ⟨ "slices.medianCmpFunc[pinfold/api.Record]", by decide, Tryz.func203.trans (congrArg some (by kernel_rfl))⟩
 f57 := ⟨ "slices.order2CmpFunc[pinfold/api.Record]", by decide, Tryz.func213.trans (congrArg some (by kernel_rfl))⟩
 t0:=Tryz.underlying0
 a0:=Tryz.isAgg0
 z0:=Tryz.sizeOf0
 v0:=Tryz.zeroValue0
 t3:=Tryz.underlying3
 a3:=Tryz.isAgg3
 z3:=Tryz.sizeOf3
 v3:=Tryz.zeroValue3
 t4:=Tryz.underlying4
 a4:=Tryz.isAgg4
 z4:=Tryz.sizeOf4
 v4:=Tryz.zeroValue4
 t5:=Tryz.underlying5
 a5:=Tryz.isAgg5
 z5:=Tryz.sizeOf5
 v5:=Tryz.zeroValue5
 t9:=Tryz.underlying9
 a9:=Tryz.isAgg9
 z9:=Tryz.sizeOf9
 v9:=Tryz.zeroValue9
 t22:=Tryz.underlying23
 a22:=Tryz.isAgg23
 z22:=Tryz.sizeOf23
 v22:=Tryz.zeroValue23
 t25:=Tryz.underlying188
 a25:=Tryz.isAgg188
 z25:=Tryz.sizeOf188
 v25:=Tryz.zeroValue188
 t39:=Tryz.underlying208
 a39:=Tryz.isAgg208
 z39:=Tryz.sizeOf208
 v39:=Tryz.zeroValue208
 t45:=Tryz.underlying218
 a45:=Tryz.isAgg218
 z45:=Tryz.sizeOf218
 v45:=Tryz.zeroValue218
 t46:=Tryz.underlying219
 a46:=Tryz.isAgg219
 z46:=Tryz.sizeOf219
 v46:=Tryz.zeroValue219
 t50:=Tryz.underlying144
 a50:=Tryz.isAgg144
 z50:=Tryz.sizeOf144
 v50:=Tryz.zeroValue144
 t53:=Tryz.underlying225
 a53:=Tryz.isAgg225
 z53:=Tryz.sizeOf225
 v53:=Tryz.zeroValue225
 t55:=Tryz.underlying227
 a55:=Tryz.isAgg227
 z55:=Tryz.sizeOf227
 v55:=Tryz.zeroValue227
 t66:=Tryz.underlying243
 a66:=Tryz.isAgg243
 z66:=Tryz.sizeOf243
 v66:=Tryz.zeroValue243
 t70:=Tryz.underlying247
 a70:=Tryz.isAgg247
 z70:=Tryz.sizeOf247
 v70:=Tryz.zeroValue247
 t76:=Tryz.underlying258
 a76:=Tryz.isAgg258
 z76:=Tryz.sizeOf258
 v76:=Tryz.zeroValue258
 t77:=Tryz.underlying259
 a77:=Tryz.isAgg259
 z77:=Tryz.sizeOf259
 v77:=Tryz.zeroValue259 }
theorem J4(a b:Int):Lib.compareInt a b=eJ a b:=by
 unfold Lib.compareInt eJ
 (repeat' split) <;>first | rfl | omega
theorem J7(a b:Int)(W:World):Calls Tryz.prog 161 #[.int .i64 a,.int .i64 b] W fun e w'=>e=.returned (.int .i64 (eJ a b))∧w'=W:=by
 have h:=Any.cmp_Compare_int Wo a b W;rw[J4] at h;exact h
theorem X1(a b:Int)(W:World)(aG:Nat)(hb:W.heap[aG]?=some (.cells #[.int .i64 a,.int .i64 b] 3)):Calls Tryz.prog 160 #[.slice (some ⟨aG,0,none⟩) 2 2] W fun e w'=>e=.returned (.int .i64 (if a≠0 then a else b))∧w'=W:=by
 go_enter Tryz.func160,Tryz.ntmps160
 go_wp2
 go_loopw [8] (fun i wr=>∃ j:Nat,j≤2∧i=.int .i64 j∧wr=W∧(0<j→a=0)∧(1<j→b=0)) (fun i _=>2-(RowKit.intOf i).toNat)
 case atStart =>
  exact ⟨0,by omega,rfl,rfl,by omega,by omega⟩
 case round =>
  obtain ⟨j,hj,rfl,rfl,h0,h1⟩:=hrel;have c0:wr.cell? ⟨aG,0,none⟩=some (.int .i64 a):=by simp[World.cell?,hb]
  have c1:wr.cell? ⟨aG,1,none⟩=some (.int .i64 b):=by simp[World.cell?,hb]
  have hj3:j=0∨j=1∨j=2:=by omega
  rcases hj3 with rfl | rfl | rfl
  ·by_cases ha:a=0
   ·subst ha
    go_wp2
    refine ⟨⟨1,?_⟩,?_⟩ <;>simp[RowKit.intOf]
   ·go_wp2
    go_ret
    exact ⟨rfl,rfl⟩
  ·have ha:a=0:=h0 (by omega);by_cases hb0:b=0
   ·subst hb0
    go_wp2
    refine ⟨⟨2,?_⟩,?_⟩ <;>simp[RowKit.intOf,ha]
   ·go_wp2
    go_ret
    exact ⟨by first | rfl | simp[ha],rfl⟩
  ·have ha:a=0:=h0 (by omega);have hb0:b=0:=h1 (by omega)
   go_wp2
   go_ret
   exact ⟨by first | rfl | simp[ha,hb0],rfl⟩
theorem FJ:aQ Tryz.prog 141 [enc ([]:List ah),.func 142 []] (.tuple []):=by
 refine ⟨by kernel_rfl,fun w D vs _ hD hv =>?_⟩;simp only[ar] at hv;obtain ⟨u,rest,cs',rfl,hp,hr',hv2⟩:=hv;obtain ⟨a,cap,h1,_⟩:=hr';have h2:cs'=[u]:=hp;rw[h1] at h2;obtain rfl:u=.slice a 0 cap:=by simpa using h2.symm
 obtain ⟨f,rest2,cs2,rfl,hp2,hr2,rfl⟩:=hv2;simp only[ae] at hr2;obtain ⟨vs2,e2,e3⟩:=hr2;have h3:cs2=[f]:=hp2;rw[e2] at h3;simp only[ar] at e3;subst e3;obtain rfl:f=.func (.func 142) #[] #[]:=by
  have:=h3.symm;simp only[zz9,and_true] at this;rw[this];rfl
 refine (AnyF.slices_SortFunc_none (P:=Tryz.prog) (ρ:=vl) { BK with } a cap (.func (.func 142) #[] #[]) w).mono ?_;rintro e w' ⟨rfl,rfl⟩;exact ⟨.tuple #[],D,rfl,⟨[],rfl,rfl⟩,⟨rfl,rfl,rfl,Z7 _,fun _ _=>rfl⟩,hD,fun _ _ h _=>h⟩
theorem xy:aQ Tryz.prog 95 [enc ([]:List ah)] (enc (⟨[]⟩:cN)):=by
 refine aQ.bO Tryz.func95 zw zD zO (t8 rfl) (fun hwf W0 bE E1 =>?_);simp only[uh,v7,bD];clear hwf;have h1:=tL [] (by simp);have R:=y6 @dp (y6 @jG aw)
 repeat' ((first |refine U.aC (by decide +kernel) rfl fun K hK =>?_|refine .lead _ (h1) ?_|refine .flat _ (FJ) rfl ?_|(refine .aA [0,2,3] hK ?_;clear hK K)|(with_reducible refine .done (hK _ ?_);clear hK K)|refine U.of rfl ?_|(with_reducible refine aj.aB (fun h =>?_) (fun h =>?_) <;>try simp only[h])) <;>try simp only[aD,R,simprocAttr])
 all_goals clear R
 all_goals rfl
end Go.Proofs.YtoffnnjbplgnaaaGreatDoor
namespace Go.Proofs.YtoffnnjbplgnaaaGreatDoor
open Go Go.Abs
open Go.Abs.Enc (enc)
theorem qE{l:List ah}(h:eX [] l=true):l.length≤60:=by
 have:=gG.len (by simp) ((tz l []).1 h);simpa using this
theorem Fl{l:List ah}(h:eX [] l=true):∀ r∈l,bm r=true:=gG.ok ((tz l []).1 h)
def n9(r:db)(l:List ah):Bool:=eX [] l&&decide (r.dn.all=fh 1 l)&&(List.range (l.length+1)).any fun i=>decide (r.copy.all=fh 1 (l.take i))
theorem Gs{p:Nat→Bool}{n i:Nat}(hi:i<n)(h:∀ k,k<i→p k=false)(hp:p i=true):(List.range n).any p=true:=List.any_eq_true.2 ⟨i,by simpa using hi,hp⟩
theorem Gr{p:Nat→Bool}{n:Nat}(h:∀ k,k<n→p k=false):(List.range n).any p=false:=by
 rw[List.any_eq_false];intro k hk;rw[h k (by simpa using hk)];decide
theorem F5(r:db)(h:r.small)(l:List ah)(hl:l.length≤4000000000000):aQ Tryz.prog 87 [enc r,enc l] (enc (n9 r l)):=by
 refine aQ.bO Tryz.func87 Is JH K5 (t8 rfl) (fun hwf W0 bE E1 =>?_);simp only[zd,DI,bD,Z5];clear hwf;have f98:=xA l (by omega);have f1:=oV r.dn h.1;have f2:=oV r.copy h.2;simp only[n9];cases q1:eX [] l
 ·rw[q1] at f98;have R:=y6 @bu aw
  repeat' ((first |(with_reducible refine .guard (fun hb =>?_) (fun hb =>?_) <;>try simp only[hb])|refine U.aC (by decide +kernel) rfl fun K hK =>?_|refine .flat _ (f98) rfl ?_|(refine .aA [0,1,2,4,5,16,19,20,21,30] hK ?_;clear hK K)|(with_reducible refine .done (hK _ ?_);clear hK K)|refine U.of rfl ?_|(with_reducible refine aj.aB (fun h =>?_) (fun h =>?_) <;>try simp only[h])) <;>try simp only[aD,R,simprocAttr])
  all_goals clear R
  all_goals rfl
 rw[q1] at f98;have hok:=Fl q1;have hln:=qE q1;have f135:=xf l (by omega) hok;have hpre:=fun i=>xf (l.take i) (by rw[Z9];omega) fun x hx=>hok x (List.mem_of_mem_take hx);cases q2:decide (r.dn.all=fh 1 l)
 ·have R:=y6 @q2 (y6 @iH (y6 @bu aw))
  repeat' ((first |(with_reducible refine .guard (fun hb =>?_) (fun hb =>?_) <;>try simp only[hb])|refine U.aC (by decide +kernel) rfl fun K hK =>?_|refine .flat _ (f98) rfl ?_|refine .flat _ (f1) rfl ?_|refine .flat _ (f135) rfl ?_|(refine .aA [0,1,2,4,5,16,19,20,21,30] hK ?_;clear hK K)|(with_reducible refine .done (hK _ ?_);clear hK K)|refine U.of rfl ?_|(with_reducible refine aj.aB (fun h =>?_) (fun h =>?_) <;>try simp only[h])) <;>try simp only[aD,R,simprocAttr])
  all_goals clear R
  all_goals rfl
 have hw0:=ew (i:=l.length) (by omega);have R:=y6 @q2 (y6 @hw0 (y6 @iH (y6 @bu aw)))
 repeat' ((first |(with_reducible refine .guard (fun hb =>?_) (fun hb =>?_) <;>try simp only[hb])|refine U.aC (by decide +kernel) rfl fun K hK =>?_|refine .flat _ (f98) rfl ?_|refine .flat _ (f1) rfl ?_|refine .flat _ (f135) rfl ?_|(refine .aA [0,1,2,4,5,16,19,20,21,30] hK ?_;clear hK K)|(with_reducible refine .done (hK _ ?_);clear hK K)|refine U.of rfl ?_|(with_reducible refine aj.aB (fun h =>?_) (fun h =>?_) <;>try simp only[h])) <;>try simp only[aD,R,simprocAttr])
 all_goals clear R
 refine U.loop (fun i:Nat=>aq [(1,enc l),(2,.ptr 2 []),(19,.int .i64 ((l.length+1:Nat):Int)),(20,.int .i64 i)] [(2,.box (enc r))]) (fun i=>i≤l.length+1∧∀ k,k<i→decide (r.copy.all=fh 1 (l.take k))=false) (fun i=>l.length+1-i) 0 ⟨zx7 _,fun k hk=>by omega⟩ ?_ ?_
 ·refine bl.b6 ?_ ?_ ?_ ?_ <;>simp[bG,bJ,bF,bA,al,bH,cw,I.only,ai.only,bp]
  all_goals rfl
 rintro i ⟨hi,hk⟩;by_cases hlt:i<l.length+1
 ·have hlc:=eC hlt;have hw:=ew (i:=i) (by omega);have hsl:=fun A=>wK (l:=l) (k:=i) A (esz:=8) rfl (by omega);have f135':=hpre i;cases q3:decide (r.copy.all=fh 1 (l.take i))
  ·have R:=y6 @hlc (y6 @hw (y6 @hsl (y6 @q3 (y6 @lC (y6 @bu aw)))))
   repeat' ((first |(with_reducible refine .guard (fun hb =>?_) (fun hb =>?_) <;>try simp only[hb])|refine U.aC (by decide +kernel) rfl fun K hK =>?_|refine .flat _ (f2) rfl ?_|refine .flat _ (f135') rfl ?_|(refine .aA [0,1,2,4,5,16,19,20,21,30] hK ?_;clear hK K)|(with_reducible refine .done (hK _ ?_);clear hK K)|refine U.of rfl ?_|(with_reducible refine aj.aB (fun h =>?_) (fun h =>?_) <;>try simp only[h])) <;>try simp only[aD,R,zy0,simprocAttr])
   all_goals clear R
   refine ⟨i+1,⟨by omega,fun k hk2 =>?_⟩,by omega,?_⟩
   ·by_cases e:k=i
    ·rw[e];exact q3
    ·exact hk k (by omega)
   ·clear hk;refine bl.b6 ?_ ?_ ?_ ?_ <;>simp[bG,bJ,bF,bA,al,bH,cw,I.only,ai.only,bp]
    all_goals rfl
  ·rw[Gs hlt hk q3];have R:=y6 @hlc (y6 @hw (y6 @hsl (y6 @q3 (y6 @lC (y6 @bu aw)))))
   repeat' ((first |(with_reducible refine .guard (fun hb =>?_) (fun hb =>?_) <;>try simp only[hb])|refine U.aC (by decide +kernel) rfl fun K hK =>?_|refine .flat _ (f2) rfl ?_|refine .flat _ (f135') rfl ?_|(refine .aA [0,1,2,4,5,16,19,20,21,30] hK ?_;clear hK K)|(with_reducible refine .done (hK _ ?_);clear hK K)|refine U.of rfl ?_|(with_reducible refine aj.aB (fun h =>?_) (fun h =>?_) <;>try simp only[h])) <;>try simp only[aD,R,zy0,simprocAttr])
   all_goals clear R
   all_goals rfl
 ·have hlc:=eV hlt;rw[Gr fun k hk2=>hk k (by omega)];have R:=y6 @hlc aw
  repeat' ((first |(with_reducible refine .guard (fun hb =>?_) (fun hb =>?_) <;>try simp only[hb])|refine U.aC (by decide +kernel) rfl fun K hK =>?_|(refine .aA [0,1,2,4,5,16,19,20,21,30] hK ?_;clear hK K)|(with_reducible refine .done (hK _ ?_);clear hK K)|refine U.of rfl ?_|(with_reducible refine aj.aB (fun h =>?_) (fun h =>?_) <;>try simp only[h])) <;>try simp only[aD,R,simprocAttr])
  all_goals clear R
  all_goals rfl
section
variable {α:Type} [Enc α] {P:Program} {hs:List FuncId} {Y:Value→List I→List (Nat×ai)→cd→Prop} {K:ab→Prop} {rest:List az} {d e esz bytes:Nat}
def iL(esz:Nat)(v:I)(os:List (Nat×ai))(l:List α)(S:List Nat):Prop:=(l=[]∧(v=.c0 esz∨v=.nils esz))∨∃ n q,n∈S∧v=.view n [] esz 0 l.length∧aE os n=some (.box (.agg ((l++q).map enc)))
theorem GF{A:ab}{w:I}(hw:w=.c0 esz∨w=.nils esz)(z:I){l:List α}(hsz:Enc.sz α=esz)(hl:l≠[])(hf:A.o d=none)(hb:l.length*bytes≤140737488355328)(hml:l.length≤maxLen) :
  ∃ p:Nat→Prop,eU A (some d) e esz bytes z (enc l) rest w=.any p fun m=>av rest ((A.aS d (.box (.agg (l.map enc++List.replicate m z)))).aP (some d) (.view d [] esz 0 l.length)):=by
 have hne:l.map (enc (α:=α))≠[]:=by simpa using hl
 have h1:cT A esz w=some []:=by rcases hw with rfl | rfl <;>rfl
 refine ⟨fun m=>l.length+m≤maxLen,?_⟩;rcases hw with rfl | rfl <;>simp only[eU,h1,kJ A esz l hsz,dZ,if_neg hne,eZ,hf,zx1,Z5,Z2,if_pos (y6 hb hml),zz3]
theorem GD{A:ab}(z:I)(hsz:Enc.sz α=esz){n l:Nat}{xs ys:List α}(hy:ys≠[])(ho:A.o n=some (.box (.agg (xs.map enc))))(hl:l≤xs.length)(hr:xs.length<l+ys.length)(hf:A.o d=none)(hb:(l+ys.length)*bytes≤140737488355328)(hml:l+ys.length≤maxLen) :
  ∃ p:Nat→Prop,eU A (some d) e esz bytes z (enc ys) rest (.view n [] esz 0 l)=.any p fun m=>av rest ((A.aS d (.box (.agg ((xs.take l).map enc++(ys.map enc++List.replicate m z))))).aP (some d) (.view d [] esz 0 (l+ys.length))):=by
 have h1:=nq (A:=A) (esz:=esz) (lo:=0) (k:=l) ho (by omega);have h2:(I.agg (xs.map (enc (α:=α)))).at []=some (.agg (xs.map enc)):=rfl;have h4:(xs.take l).length=l:=by rw[Z9];omega
 refine ⟨fun m=>l+ys.length+m≤maxLen,?_⟩;simp only[eU,h1,List.drop_zero,kJ A esz ys hsz,dZ];rw[if_neg (by simpa using hy)];simp only[ho,h2,Z2,Z5];rw[if_neg (by omega)];simp only[eZ,hf,Z2,h4];rw[if_pos ⟨hb,hml⟩]
theorem Be(z:α){ts:List (Nat×I)}{os:List (Nat×ai)}{v:I}{l ys:List α}{S:List Nat}(hsz:Enc.sz α=esz)(hg:iL esz v os l S)(hf:aE os d=none)(hb:(l.length+ys.length)*bytes≤140737488355328)(hml:l.length+ys.length≤maxLen) :
  (∃ v' os',eU (aq ts os) (some d) e esz bytes (enc z) (enc ys) rest v=av rest (aq ((d,v')::ts) os')∧iL esz v' os' (l++ys) (d::S)∧∀ m,m∉d::S→aE os' m=aE os m) ∨
  (∃ p,∃ v':Nat→I,∃ os':Nat→List (Nat×ai),eU (aq ts os) (some d) e esz bytes (enc z) (enc ys) rest v=.any p (fun m=>av rest (aq ((d,v' m)::ts) (os' m)))∧∀ k,iL esz (v' k) (os' k) (l++ys) (d::S)∧∀ m,m∉d::S→aE (os' k) m=aE os m):=by
 by_cases hy:ys=[]
 ·subst hy;rw[List.append_nil];rcases hg with ⟨rfl,hv⟩ | ⟨n,q,hn,rfl,ho⟩
  ·rcases hv with rfl | rfl
   ·exact .inl ⟨.c0 esz,os,xL _ hsz,.inl ⟨rfl,.inl rfl⟩,fun _ _=>rfl⟩
   ·refine .inl ⟨.nils esz,os,?_,.inl ⟨rfl,.inr rfl⟩,fun _ _=>rfl⟩;have h1:cT (aq ts os) esz (.nils esz)=some []:=rfl;simp only[eU,h1,kJ _ esz ([]:List α) hsz,dZ,zz6,if_true];rfl
  ·refine .inl ⟨_,os,?_,.inr ⟨n,q,List.mem_cons_of_mem _ hn,rfl,ho⟩,fun _ _=>rfl⟩;have h1:=nq (A:=aq ts os) (esz:=esz) (lo:=0) (k:=l.length) ho (by simp);simp only[eU,h1,kJ _ esz ([]:List α) hsz,dZ,zz6,if_true];rfl
 ·rcases hg with ⟨rfl,hv⟩ | ⟨n,q,hn,rfl,ho⟩
  ·obtain ⟨p,h1⟩:=GF (A:=aq ts os) (rest:=rest) (e:=e) hv (enc z) hsz hy hf (by simpa using hb) (by simpa using hml);refine .inr ⟨p,fun m=>.view d [] esz 0 ys.length,fun m=>(d,.box (.agg (ys.map enc++List.replicate m (enc z))))::os,h1,fun k=>⟨.inr ⟨d,List.replicate k z,List.mem_cons_self,by simp,?_⟩,fun m hm =>?_⟩⟩
   ·simp[aE]
   ·rw[cw,if_neg (fun h=>by rw[h] at hm;exact hm List.mem_cons_self)]
  ·by_cases hr:l.length+ys.length≤(l++q).length
   ·have h1:=xM (A:=aq ts os) (rest:=rest) (d:=some d) (e:=e) (bytes:=bytes) (esz:=esz) (enc z) hsz hy ho hr;have e1:(l++q).take l.length++(ys++(l++q).drop (l.length+ys.length))=(l++ys)++q.drop ys.length:=by simp[List.drop_append]
    rw[e1] at h1;refine .inl ⟨_,(n,.box (.agg (((l++ys)++q.drop ys.length).map enc)))::os,h1,.inr ⟨n,q.drop ys.length,List.mem_cons_of_mem _ hn,by simp,by simp[aE]⟩,fun m hm =>?_⟩;rw[cw,if_neg (fun h=>by rw[h] at hm;exact hm (List.mem_cons_of_mem _ hn))]
   ·obtain ⟨p,h1⟩:=GD (A:=aq ts os) (rest:=rest) (d:=d) (e:=e) (bytes:=bytes) (esz:=esz) (enc z) hsz hy ho (by simp) (by omega) hf hb hml;refine .inr ⟨p,fun m=>.view d [] esz 0 (l.length+ys.length),fun m=>(d,.box (.agg (((l++q).take l.length).map enc++(ys.map enc++List.replicate m (enc z)))))::os,h1,fun k=>⟨.inr ⟨d,List.replicate k z,List.mem_cons_self,by simp,?_⟩,fun m hm =>?_⟩⟩
    ·simp[aE]
    ·rw[cw,if_neg (fun h=>by rw[h] at hm;exact hm List.mem_cons_self)]
theorem bM.n5(z:α){ts:List (Nat×I)}{os:List (Nat×ai)}{v:I}{l ys:List α}{S:List Nat}(hsz:Enc.sz α=esz)(hg:iL esz v os l S)(hf:aE os d=none)(hb:(l.length+ys.length)*bytes≤140737488355328)(hml:l.length+ys.length≤maxLen)
  (h:∀ v' os',iL esz v' os' (l++ys) (d::S)→(∀ m,m∉d::S→aE os' m=aE os m)→bM P Y hs K (av rest (aq ((d,v')::ts) os'))):bM P Y hs K (eU (aq ts os) (some d) e esz bytes (enc z) (enc ys) rest v):=by
 rcases Be (rest:=rest) (e:=e) z hsz hg hf hb hml (ts:=ts) with ⟨v',os',h1,h2,h3⟩ | ⟨p,v',os',h1,h2⟩
 ·rw[h1];exact h v' os' h2 h3
 ·rw[h1];exact .any fun m _=>h _ _ (h2 m).1 (h2 m).2
theorem aZ.n5(z:α){ts:List (Nat×I)}{os:List (Nat×ai)}{v:I}{l ys:List α}{S:List Nat}(hsz:Enc.sz α=esz)(hg:iL esz v os l S)(hf:aE os d=none)(hb:(l.length+ys.length)*bytes≤140737488355328)(hml:l.length+ys.length≤maxLen)
  (h:∀ v' os',iL esz v' os' (l++ys) (d::S)→(∀ m,m∉d::S→aE os' m=aE os m)→aZ P Y false K (av rest (aq ((d,v')::ts) os'))):aZ P Y false K (eU (aq ts os) (some d) e esz bytes (enc z) (enc ys) rest v):=by
 rcases Be (rest:=rest) (e:=e) z hsz hg hf hb hml (ts:=ts) with ⟨v',os',h1,h2,h3⟩ | ⟨p,v',os',h1,h2⟩
 ·rw[h1];exact h v' os' h2 h3
 ·rw[h1];exact .any rfl fun m _=>h _ _ (h2 m).1 (h2 m).2
theorem VM(os:List (Nat×ai))(S:List Nat):iL esz (.c0 esz) os ([]:List α) S:=.inl ⟨rfl,.inl rfl⟩
theorem Bd{v:I}{os:List (Nat×ai)}{l:List α}{S:List Nat}{A:ab}(hsz:Enc.sz α=esz)(h:iL esz v os l S)(hA:∀ m∈S,A.o m=aE os m):bd true A v=some (enc l):=by
 rcases h with ⟨rfl,rfl | rfl⟩ | ⟨n,q,hn,rfl,ho⟩
 ·simp only[bd,gI,zz6,hsz]
 ·simp only[bd,gI,zz6,hsz]
 ·have h1:bd true A (.view n [] esz 0 l.length)=jk esz 0 l.length (some ((l++q).map enc)):=by
   rw[uT,hA n hn,ho];rfl
  rw[h1,mE hsz,List.take_left]
end
theorem VL{l:List ah}{x:I}{os' os0:List (Nat×ai)}{d:Nat}(h:mA l x os'):iL 8 (x.aO (bg [(7,d)])) (cL [(7,d)] os'++os0) l [d]:=by
 rcases h with ⟨hn,rfl | rfl,rfl⟩ | ⟨hn,k,rfl,rfl⟩
 ·exact .inl ⟨hn,.inr rfl⟩
 ·exact .inl ⟨hn,.inl rfl⟩
 ·refine .inr ⟨d,List.replicate k ct,by simp,?_,?_⟩
  ·simp[I.aO,bg]
  ·simp only[eR,jv,Z3,zz2,aE,cL,bg,if_true,ai.aO,I.aO]
def jw:db:=⟨⟨[],[]⟩,⟨[],[]⟩⟩
theorem px:I.agg [.agg [.ak ⟨#[]⟩,.ak ⟨#[]⟩],.agg [.ak ⟨#[]⟩,.ak ⟨#[]⟩]]=enc jw:=rfl
def oR(r:db)(l s:List ah)(x:ah):db×List ah×Int :=
 if x∈l then (r,l,0) else if (jg s x).2≠0 then (jw,[],(jg s x).2) else (⟨⟨r.dn.bT,r.dn.ev++dT (eF 1 l) x⟩,r.copy⟩,l++[x],0)
theorem Gl{s:List ah}{x:ah}(h:(jg s x).2=0):bm x=true:=by
 simp only[jg] at h;cases q:bm x
 ·rw[q] at h
  (repeat' split at h) <;>simp_all
 ·rfl
theorem gm:(∀ A n b rest (q:cN),eO A (some 1) n [] b (enc q) rest (some (.agg [.nils 8]))=av rest (A.aS n (.box (enc q)))) ∧
  (∀ A n rest (r:db) (x y:List UInt8),eO A none n [0,1] (enc r) (enc (ay.of x)) rest (some (enc (ay.of y)))=av rest (A.aS n (.box (enc (⟨⟨r.dn.bT,x⟩,r.copy⟩:db))))) :=
 ⟨fun A n b rest q=>by rw[fK (s:=some 1) (v:=enc q) (old:=.agg [.nils 8]) (e9 _) rfl rfl,fI],
  fun A n rest r x y=>by rw[fK (s:=none) (v:=enc (ay.of x)) (old:=enc (ay.of y)) (e9 _) rfl rfl];rfl⟩
theorem F6(r:db)(h:r.small)(l s:List ah)(hl:l.length≤60)(hok:∀ x∈l,bm x=true)(hsl:s.length≤60)(h95:aQ Tryz.prog 95 [enc l] (enc (⟨s⟩:cN)))(x:ah) :
  aQ Tryz.prog 88 [enc r,enc l,enc x] (.tuple [enc (oR r l s x).1,enc (oR r l s x).2.1,enc (oR r l s x).2.2]):=by
 refine aQ.bO Tryz.func88 It JI K6 (t8 rfl) (fun hwf W0 bE E1 =>?_);simp only[ze,DJ,bD,Z5,Nat.reduceAdd];clear hwf;have f136:=FD l x (by omega);have f93:=tL l (by omega);have f44:=FZ s x (by omega);simp only[oR];cases q1:decide (x∈l)
 rotate_left
 ·rw[q1] at f136;rw[if_pos (of_decide_eq_true q1)];have R:=y6 @px (y6 @gl (y6 @bu aw))
  repeat' ((first |refine U.aC (by decide +kernel) rfl fun K hK =>?_|refine .flat _ (f136) rfl ?_|refine .lead _ (f93) ?_|(refine U.lv (gs:=uZ) [] [(3,[3]),(6,[6])] [0,1,2,3,4,5] (by decide +kernel) (dG.of (by simp[jl,bH,vr,I.only,bp])) fun K hK =>?_;simp only[jW,uZ,List.getD_cons_zero,List.getD_cons_succ,R,simprocAttr])|(refine .aA [0,1,2,3,5,6,7,8,10,11,15,27] hK ?_;clear hK K)|(with_reducible refine .done (hK _ ?_);clear hK K)|refine U.of rfl ?_|(with_reducible refine aj.aB (fun h =>?_) (fun h =>?_) <;>try simp only[h])) <;>try simp only[aD,R,simprocAttr])
  all_goals clear R
  all_goals rfl
 rw[q1] at f136;rw[if_neg (of_decide_eq_false q1)];by_cases q2:(jg s x).2=0
 rotate_left
 ·have q2':((jg s x).2 != 0)=true:=by simpa using q2
  rw[if_pos q2];generalize jg s x=p at *;have R:=y6 @px (y6 @q2' (y6 @gm (y6 @dp (y6 @gl (y6 @bu aw)))))
  repeat' ((first |refine U.aC (by decide +kernel) rfl fun K hK =>?_|refine .flat _ (f136) rfl ?_|refine .lead _ (h95) ?_|refine .lead _ (f44) ?_|(refine .aA [0,1,2,3,5,6,7,8,10,11,15,27] hK ?_;clear hK K)|(with_reducible refine .done (hK _ ?_);clear hK K)|refine U.of rfl ?_|(with_reducible refine aj.aB (fun h =>?_) (fun h =>?_) <;>try simp only[h])) <;>try simp only[aD,R,simprocAttr])
  all_goals clear R
  all_goals rfl
 have q2':((jg s x).2 != 0)=false:=by simp[q2]
 rw[if_neg (by simp[q2])];have hx:=Gl q2;have f137:=FE l (by omega) hok;have hin:=tp l;have f81:=oY (eF 1 l) hin x hx;have hll:=sa hin hx;have hadd:=eW r.dn.ev (dT (eF 1 l) x) (by have:=h.1.2;omega);generalize jg s x=p at *;have hbs:gr 8 (some [enc x])=some (enc [x]):=nM 8 x rfl;have R:=y6 @px (y6 @q2' (y6 @hadd (y6 @gm (y6 @dp (y6 @gl (y6 @bu aw))))))
 repeat' ((first |refine U.aC (by decide +kernel) rfl fun K hK =>?_|refine .flat _ (f136) rfl ?_|refine .lead _ (h95) ?_|refine .lead _ (f44) ?_|refine .flat _ (f137) rfl ?_|refine .lead _ (f81) ?_|(refine .aA [0,1,2,3,5,6,7,8,10,11,15,27] hK ?_;clear hK K)|(with_reducible refine .done (hK _ ?_);clear hK K)|refine U.of rfl ?_|(with_reducible refine aj.aB (fun h =>?_) (fun h =>?_) <;>try simp only[h])) <;>try simp only[aD,R,simprocAttr])
 all_goals clear R
 obtain ⟨r',hr'⟩:∃ r':db,r'=⟨⟨r.dn.bT,r.dn.ev++dT (eF 1 l) x⟩,r.copy⟩:=⟨_,rfl⟩
 rw[←hr'];refine U.sub (bl.jJ [3] 3 (x:=.ptr 3 []) (y:=.ref (enc r')) (ts':=[(1,enc l),(3,.ref (enc r')),(5,.ptr 5 []),(6,.ptr 6 [])]) (os':=[(6,.box (enc jw)),(5,.box (enc x))]) rfl ?_ ?_ ?_ ?_ ?_ ?_) ?_
 ·rw[rB];simp[mD,dH,aq,jO,aE,jG,pf]
 ·simp[c7,bA,ai.only,I.only,I.bR,bp]
 ·simp[bG,fO,bH,I.only,bp]
 ·simp[bJ,c7,aE]
 ·simp[bF,al,aE,I.only,bp]
 ·simp[bA,ai.only,bp]
 refine U.sub (bl.jJ [5] 5 (x:=.ptr 5 []) (y:=.ref (enc x)) (ts':=[(1,enc l),(3,.ref (enc r')),(5,.ref (enc x)),(6,.ptr 6 [])]) (os':=[(6,.box (enc jw))]) rfl ?_ ?_ ?_ ?_ ?_ ?_) ?_
 ·rw[rB];simp[mD,dH,aq,jO,aE,jG,pf]
 ·simp[c7,bA,ai.only,bp]
 ·simp[bG,fO,bH,I.only,bp]
 ·simp[bJ,c7,aE]
 ·simp[bF,al,aE,I.only,bp]
 ·simp[bA,ai.only,bp]
 have R:=y6 @hbs (y6 @eA (y6 @gl (y6 @bu aw)))
 repeat' ((first |refine U.aC (by decide +kernel) rfl fun K hK =>?_|refine .flat _ (8 [0,1,3,4,2,5,6,7,8] [(3,[]),(5,[]),(6,[6])]) rfl ?_|(refine .aA [0,1,2,3,5,6,7,8,10,11,15,27] hK ?_;clear hK K)|(with_reducible refine .done (hK _ ?_);clear hK K)|refine U.of rfl ?_|(with_reducible refine aj.aB (fun h =>?_) (fun h =>?_) <;>try simp only[h])) <;>try simp only[aD,R,simprocAttr])
 all_goals clear R
 refine U.lv (gs:=u1) [] [(3,[]),(5,[]),(6,[6])] [0,1,3,4,2,5,6,7,8] (by decide +kernel) (dG.of (by simp[jl,bH,I.only,bp])) fun K hK =>?_
 try simp only[jW,u1,Z3,zz6,List.getD_cons_zero,List.getD_cons_succ,hbs,aw,aX,simprocAttr]
 refine .bB [(7,46)] [enc l] (mA l) (qI l (by omega)) eP.nil ⟨.inl ⟨(gJ _ _).symm,bp _ _,e9 _⟩,trivial⟩ ?_ ?_
 ·rintro x os' (⟨_,h | h,rfl⟩ | ⟨_,k,rfl,rfl⟩)
  ·subst h;exact df.nil (fun _=>rfl) (fun h=>by cases h)
  ·subst h;exact df.nil (fun _=>rfl) (fun h=>by cases h)
  ·exact df.pZ (fun p=>fo p _) (fun h=>by cases h) rfl (fun h=>by cases h) rfl (by decide)
 intro y os' hp;have hg:=VL (d:=46) (os0:=[(6,.box (enc jw))]) hp;have h6:∀ m,m≠46→aE (cL [(7,46)] os'++[(6,ai.box (enc jw))]) m=aE [(6,ai.box (enc jw))] m:=by
  intro m hm;rcases hp with ⟨_,_,rfl⟩ | ⟨_,k,_,rfl⟩
  ·rfl
  ·simp only[eR,cL,Z3,zz6,bg,if_true,zz2,zz3,aE,if_neg hm]
 generalize y.aO (bg [(7,46)])=v at hg ⊢;generalize cL [(7,46)] os'++[(6,ai.box (enc jw))]=os at hg h6 ⊢;have h49:aE os 49=none:=h6 49 (by decide)
 try simp only[eA,aX,simprocAttr]
 refine bM.n5 (default:ah) (ys:=[x]) rfl hg h49 (by simp;omega) (by simp[maxLen];omega) fun v' os'' hg2 hk =>?_;have h66:aE os'' 6=some (.box (enc jw)):=by rw[hk 6 (by decide),h6 6 (by decide)];rfl
 try simp only[h66,gl,aX,simprocAttr]
 have hf:∀ ts,bd true (aq ts ((6,.box (enc r'))::os'')) v'=some (enc (l++[x])):=fun ts=>Bd rfl hg2 fun m hm=>by
  have:m≠6:=by
   simp only[zy8,List.not_mem_nil,or_false] at hm;omega
  simp[aq,aE,this]
 refine .done (hK _ ?_);clear hK K;refine U.ret ?_;simp only[aX,simprocAttr]
 try simp only[hf,aw,aX,simprocAttr]
 all_goals rfl
def qD(r:db)(l s:List ah)(x:ah):db×List ah×Int:=if n9 r l=false then (jw,[],84) else oR r l s x
theorem FU(r:db)(h:r.small)(l s:List ah)(hl:l.length≤4000000000000)(hsl:s.length≤60)(h95:n9 r l=true→aQ Tryz.prog 95 [enc l] (enc (⟨s⟩:cN)))(x:ah) :
  aQ Tryz.prog 35 [enc r,enc l,enc x] (.tuple [enc (qD r l s x).1,enc (qD r l s x).2.1,enc (qD r l s x).2.2]):=by
 refine aQ.bO Tryz.func35 H5 Jn KK (t8 rfl) (fun hwf W0 bE E1 =>?_);simp only[yR,Dl,bD,Z5,Nat.reduceAdd];clear hwf;have f:=F5 r h l hl;simp only[qD];cases q:n9 r l
 ·rw[q] at f;have R:=y6 @px (y6 @gl (y6 @bu aw))
  repeat' ((first |refine U.aC (by decide +kernel) rfl fun K hK =>?_|refine .flat _ (f) rfl ?_|(refine .aA [0,1,2,3,5,6,7,8,12] hK ?_;clear hK K)|(with_reducible refine .done (hK _ ?_);clear hK K)|refine U.of rfl ?_|(with_reducible refine aj.aB (fun h =>?_) (fun h =>?_) <;>try simp only[h])) <;>try simp only[aD,R,simprocAttr])
  all_goals clear R
  all_goals rfl
 rw[q] at f;have hw:eX [] l=true:=by simp only[n9,Z0] at q;exact q.1.1
 have f88:=F6 r h l s (qE hw) (Fl hw) hsl (h95 q) x;simp only[Bool.true_eq_false,if_false];generalize oR r l s x=p at *;have R:=y6 @px (y6 @gl (y6 @bu aw))
 repeat' ((first |refine U.aC (by decide +kernel) rfl fun K hK =>?_|refine .flat _ (f) rfl ?_|refine .lead _ (f88) ?_|(refine .aA [0,1,2,3,5,6,7,8,12] hK ?_;clear hK K)|(with_reducible refine .done (hK _ ?_);clear hK K)|refine U.of rfl ?_|(with_reducible refine aj.aB (fun h =>?_) (fun h =>?_) <;>try simp only[h])) <;>try simp only[aD,R,simprocAttr])
 all_goals clear R
 all_goals rfl
end Go.Proofs.YtoffnnjbplgnaaaGreatDoor
namespace Go.Proofs.YtoffnnjbplgnaaaGreatDoor
open Go Go.Abs Go.RowKit
open Go.Abs.Enc (enc)
def gp(p:List Int)(i:Nat)(n:Int):Int:=if p=[] then 0 else sw (p.getD (i%p.length) 0) n
theorem YC(i n:Nat):(i:Int).tmod (n:Int)=((i%n:Nat):Int):=rfl
theorem tH(p:List Int)(i:Nat)(n:Int)(hn:n≠0)(hi:i≤1000)(hp:p.length≤1000000000000000):aQ Tryz.prog 121 [enc p,.int .i64 (i:Int),enc n] (enc (gp p i n)):=by
 refine aQ.bO Tryz.func121 Hs IT Ke (t8 rfl) (fun hwf W0 bE E1 =>?_);simp only[yk,CP,bD,Z5,Nat.reduceAdd];clear hwf;simp only[gp];by_cases h:p=[]
 ·have q:((p.length:Int)==0)=true:=by rw[h];rfl
  rw[if_pos h];have R:=y6 @q aw
  repeat' ((first |refine U.aC (by decide +kernel) rfl fun K hK =>?_|(refine .aA [0,1,2,6,9] hK ?_;clear hK K)|(with_reducible refine .done (hK _ ?_);clear hK K)|refine U.of rfl ?_|(with_reducible refine aj.aB (fun h =>?_) (fun h =>?_) <;>try simp only[h])) <;>try simp only[aD,R,simprocAttr])
  all_goals clear R
  all_goals rfl
 ·have hpos:0<p.length:=List.length_pos_iff.2 h;have q:((p.length:Int)==0)=false:=by rw[beq_eq_false_iff_ne];omega
  have hnz:¬ (p.length:Int)=0:=by omega
  have hr:=YC i p.length;have hlt:i%p.length<p.length:=Nat.mod_lt _ hpos;have he:=fun A=>ec (A:=A) 1 hlt rfl;rw[if_neg h];have hg:p.getD (i%p.length) 0=p[i%p.length]:=by simp[zz5,hlt]
  rw[hg];generalize p[i%p.length]=x at *;have R:=y6 @q (y6 @hnz (y6 @hr (y6 @he (y6 @hn aw))))
  repeat' ((first |refine U.aC (by decide +kernel) rfl fun K hK =>?_|(refine .aA [0,1,2,6,9] hK ?_;clear hK K)|(with_reducible refine .done (hK _ ?_);clear hK K)|refine U.of rfl ?_|(with_reducible refine aj.aB (fun h =>?_) (fun h =>?_) <;>try simp only[h])) <;>try simp only[aD,R,simprocAttr])
  all_goals clear R
  all_goals rfl
end Go.Proofs.YtoffnnjbplgnaaaGreatDoor
namespace Go.Proofs.YtoffnnjbplgnaaaGreatDoor
open Go Go.Abs
open Go.Abs.Enc (enc)
def tx(u:List UInt8)(p:List Int)(i:Nat):List UInt8:=u.take (gp p i (u.length+1:Nat)).toNat
def qu(w:List UInt8)(p:List Int)(i:Nat):List UInt8:=if gp p (i+1) 2=1∧0<w.length then w.set (gp p (i+2) (w.length:Nat)).toNat 63 else w
def wZ(r:dh)(p:List Int)(i:Nat):List UInt8:=r.bT++qu (tx r.ev p i) p i
def lJ(r:dh)(p:List Int)(i:Nat):dh:=⟨wZ r p i,[]⟩
theorem EN(w:List UInt8)(p:List Int)(i:Nat):(qu w p i).length=w.length:=by
 rw[qu];split <;>simp
theorem tY{p:List Int}{i:Nat}{n:Nat}(hn:0<n∧n≤4611686018427387904)(hp:∀ x∈p,-9223372036854775808≤x∧x≤9223372036854775807):0≤gp p i (n:Nat)∧gp p i (n:Nat)<n:=by
 rw[gp];by_cases h:p=[]
 ·rw[if_pos h];omega
 ·rw[if_neg h];have hpos:0<p.length:=List.length_pos_iff.2 h;have hlt:i%p.length<p.length:=Nat.mod_lt _ hpos;have hm:p.getD (i%p.length) 0∈p:=by simp only[zz5,zz0 hlt,Option.getD_some];exact List.getElem_mem hlt
  rw[WR (hp _ hm) (by omega)];exact ⟨Int.emod_nonneg _ (by omega),Int.emod_lt_of_pos _ (by omega)⟩
theorem yd:∀ l:List UInt8,my (l.map enc)=some l
 | []=>rfl
 |b::l=>by
  have h:=yd l;rw[Z3]
  show (match I.int .u8 (b.toNat:Int),my (l.map enc) with | .int .u8 n,some l=>some (UInt8.ofNat n.toNat::l) | _,_=>none)=_
  rw[h]
  show some (UInt8.ofNat ((b.toNat:Int)).toNat::l)=_
  simp
theorem qY(l:List UInt8):kT (some (l.map enc))=some (enc (ay.of l)):=by
 rw[kT,yd];rfl
theorem tf(A:ab)(t:List UInt8):j2 A 1 (enc (ay.of t))=some (t.map enc):=rfl
theorem sZ(n:Nat):List.replicate n (I.int .u8 0)=(List.replicate n (0:UInt8)).map enc:=by rw[List.map_replicate];rfl
def wN(sz z lo k:Nat):Option (List I)→Option (List I)
 |some fs=>if lo+k≤fs.length∧z=sz then some ((fs.drop lo).take k) else none
 |none=>none
theorem tg(A:ab)(sz n z lo k:Nat)(p:List Nat):j2 A sz (.view n p z lo k)=wN sz z lo k (eB (dH p (A.o n))):=by
 show cT A sz (.view n p z lo k)=_
 simp only[cT,jF,fE];cases dH p (A.o n) with
 |none=>rfl
 |some c=>cases c <;>rfl
theorem tj(l q:List UInt8){n:Nat}(h:n=l.length):wN 1 1 0 n (some ((l++q).map enc))=some (l.map enc):=by
 subst h;simp only[wN,Z2,List.drop_zero,←List.map_take,List.take_left];rw[if_pos ⟨by simp,trivial⟩]
theorem th(A:ab)(k n:Nat)(l:List UInt8)(hn:n=l.length)(h:A.o k=some (.box (.agg (l.map enc)))):cT A 1 (.view k [] 1 0 n)=some (l.map enc):=by
 subst hn;have e:=nq (A:=A) (esz:=1) (lo:=0) (k:=l.length) h (by simp);rw[List.drop_zero,List.take_length] at e;exact e
theorem zM{A:ab}{d:Option Nat}{z esz:Nat}{rest:List az}{ys:List I} : kb A d esz (av rest) (.c0 z) (some ys)=av rest (A.aP d (.int .i64 0)):=rfl
theorem Ze{n:Nat}{p:List Nat}{sz k:Nat} : iJ n p sz 0 k k (some (.int .i64 k)) none none=some (.c0 sz):=by
 simp only[iJ,gq];rw[if_pos ⟨by omega,by omega,by omega⟩,if_pos (by omega)]
theorem EG{A:ab}{n k i:Nat}{xs:List UInt8}(hk:k=xs.length)(hi:i<k)(h:A.o n=some (.box (.agg (xs.map enc)))):gB A 1 (some (.int .i64 i)) none none (.view n [] 1 0 k)=some (.view n [] 1 i (k-i)):=by
 subst hk;rw[wI,h]
 show lG n [] 1 0 xs.length 1 _ none none (some (xs.map enc))=_
 rw[wJ,Z2,mb (by omega) (by omega) hi]
theorem EH{A:ab}{n k:Nat}{xs:List UInt8}(hk:k=xs.length)(h:A.o n=some (.box (.agg (xs.map enc)))):gB A 1 (some (.int .i64 k)) none none (.view n [] 1 0 k)=some (.c0 1):=by
 subst hk;rw[wI,h]
 show lG n [] 1 0 xs.length 1 _ none none (some (xs.map enc))=_
 rw[wJ,Z2,Ze]
theorem rm{A:ab}{d:Option Nat}{n k m:Nat}{rest:List az}{a:List UInt8}(hk:k=a.length+m)(h:A.o n=some (.box (.agg ((List.replicate k (0:UInt8)).map enc)))) :
  kb A d 1 (av rest) (.view n [] 1 0 k) (some (a.map enc))=av rest ((A.aS n (.box (.agg ((a++List.replicate m (0:UInt8)).map enc)))).aP d (.int .i64 (a.length:Nat))):=by
 subst hk;rw[nR (c:=a.length) h (by simp) (by omega)];simp
theorem zL{A:ab}{d:Option Nat}{n i m:Nat}{rest:List az}{a b:List UInt8}(hi:i=a.length)(hm:m=b.length)(h:A.o n=some (.box (.agg ((a++List.replicate m (0:UInt8)).map enc)))) :
  kb A d 1 (av rest) (.view n [] 1 i m) (some (b.map enc))=av rest ((A.aS n (.box (.agg ((a++b).map enc)))).aP d (.int .i64 (b.length:Nat))):=by
 subst hi hm;rw[nR (c:=b.length) h (by simp) (by omega)];simp
theorem xr(r:dh)(hr:r.small)(p:List Int)(i:Nat)(hi:i≤900)(hp:p.length≤100000000000000)(hpi:∀ x∈p,-9223372036854775808≤x∧x≤9223372036854775807):aQ Tryz.prog 75 [enc r,enc p,.int .i64 (i:Int)] (enc (lJ r p i)):=by
 obtain ⟨n1,hn1⟩:∃ n1:Nat,gp p i ((r.ev.length+1:Nat):Int)=(n1:Int):=zy1 (tY (by have:=hr.2;omega) hpi).1;have hn1l:n1≤r.ev.length:=by have:=(tY (p:=p) (i:=i) (n:=r.ev.length+1) (by have:=hr.2;omega) hpi).2;omega
 have hd:=hr.1;have hu:=hr.2;have e1:tx r.ev p i=r.ev.take n1:=by rw[tx,hn1];rfl
 have hnl:(r.ev.take n1).length=n1:=by rw[Z9];omega
 rw[lJ,wZ,e1];refine aQ.bO Tryz.func75 Ij Jz KX (t8 rfl) (fun hwf W0 bE E1 =>?_);simp only[c75,Dz,bD,Z5,Nat.reduceAdd];clear hwf;have f1:=tH p i ((r.ev.length+1:Nat):Int) (by omega) (by omega) (by omega);have f2:=tH p (i+1) 2 (by omega) (by omega) (by omega);have hss:=qo (ay.of r.ev) (j:=n1) (by rw[ay.dI];exact hn1l);rw[ay.dI] at hss;have hs2:=wz (r.ev.take n1);have hl:=fun t=>oK t;have hw1:IntKind.i64.wrap (((r.ev.length:Nat):Int)+1)=((r.ev.length+1:Nat):Int):=by rw[dV _ (by omega) (by omega)];omega
 have hw2:IntKind.i64.wrap ((i:Int)+1)=((i+1:Nat):Int):=by rw[dV _ (by omega) (by omega)];omega
 have hw3:IntKind.i64.wrap ((i:Int)+2)=((i+2:Nat):Int):=by rw[dV _ (by omega) (by omega)];omega
 rw[hn1] at f1
 replace f2:aQ Tryz.prog 121 [enc p,.int .i64 ((i+1:Nat):Int),.int .i64 2] (.int .i64 (gp p (i+1) 2)):=f2
 replace f1:aQ Tryz.prog 121 [enc p,.int .i64 (i:Int),.int .i64 ((r.ev.length+1:Nat):Int)] (.int .i64 (n1:Int)):=f1
 obtain ⟨l2,hl2⟩:∃ l2,qu (r.ev.take n1) p i=l2:=⟨_,rfl⟩
 have hl2n:l2.length=n1:=by rw[←hl2,EN,hnl]
 rw[hl2];rw[qu] at hl2;generalize r.ev.take n1=w at *;have hpi':=hpi;clear e1;have hiv:=trivial;have hat:=trivial;have hst:=trivial;have f3:=f2;rcases Nat.eq_zero_or_pos n1 with h0 | h0
 ·have hw0:l2=w:=by
   rw[if_neg] at hl2
   ·exact hl2.symm
   ·intro h;omega
  subst hw0;have hg:decide ((n1:Int)>0)=false:=decide_eq_false (by omega);cases hb:gp p (i+1) 2==1
  ·generalize gp p (i+1) 2=a2 at *;have hw4:IntKind.i64.wrap ((r.bT.length:Int)+(n1:Int))=((r.bT.length+n1:Nat):Int):=by rw[dV _ (by omega) (by omega)];omega
   have hmk:=fun (A:ab) (rest:List az)=>sv (A:=A) (d:=44) (bytes:=1) (z:=.int .u8 0) (rest:=rest) (n:=r.bT.length+n1) (by omega) (by unfold maxLen;omega);have hcp:=fun (A:ab) (rest:List az)=>rm (A:=A) (d:=some 48) (n:=44) (k:=r.bT.length+n1) (m:=n1) (rest:=rest) (a:=r.bT) rfl;have hcv:=fun (q:List UInt8)=>tj l2 q (n:=n1) hl2n.symm;have hsb:=fun (A:ab)=>th A 44 (r.bT.length+n1) (r.bT++l2) (by simp[hl2n]);have hbs:=qY (r.bT++l2);have hce:=fun (A:ab)=>tf A r.bT;have hl0:l2=[]:=zx2 (by omega);have hsl:=fun (A:ab)=>EH (A:=A) (n:=44) (k:=r.bT.length+n1) (xs:=r.bT++List.replicate n1 0) (by simp);have hn:((r.bT.length+n1:Nat):Int)=(r.bT.length:Int):=by omega
   have hrp:r.bT++List.replicate n1 (0:UInt8)=r.bT++l2:=by rw[hl0,h0];rfl
   rw[hn,hrp] at hsl;rw[hrp] at hcp;have R:=y6 @hg (y6 @pR (y6 @tg (y6 @lW (y6 @sZ (y6 @hw1 (y6 @hw2 (y6 @hw3 (y6 @hw4 (y6 @hb (y6 @hnl (y6 @hmk (y6 @hcp (y6 @hcv (y6 @hsb (y6 @hbs (y6 @hce (y6 @hsl (y6 @zM (y6 @jH (y6 @gl (y6 @kV (y6 @hl (y6 @hss (y6 @hs2 (y6 @bu (y6 @si aw))))))))))))))))))))))))))
   repeat' ((first |(with_reducible refine .guard (fun hb =>?_) (fun hb =>?_) <;>try simp only[hb])|(refine U.lv (gs:=lj) [] [] [0,1,2,3,4,5,6,7,8,9,10,11] (by decide +kernel) (dG.of (by simp[jl])) fun K hK =>?_;simp only[jW,lj,List.getD_cons_zero,List.getD_cons_succ,R,simprocAttr])|refine bM.eN rfl fun m =>?_|refine U.aC (by decide +kernel) rfl fun K hK =>?_|refine .flat _ (f1) rfl ?_|refine .flat _ (f2) rfl ?_|(refine .aA [0,1,2,3,6,7,8,29] hK ?_;clear hK K)|(with_reducible refine .done (hK _ ?_);clear hK K)|refine U.of rfl ?_|(with_reducible refine aj.aB (fun h =>?_) (fun h =>?_) <;>try simp only[h])) <;>try simp only[aD,R,zy0,simprocAttr])
   all_goals clear R
   all_goals rfl
  ·generalize gp p (i+1) 2=a2 at *;have hw4:IntKind.i64.wrap ((r.bT.length:Int)+(n1:Int))=((r.bT.length+n1:Nat):Int):=by rw[dV _ (by omega) (by omega)];omega
   have hmk:=fun (A:ab) (rest:List az)=>sv (A:=A) (d:=44) (bytes:=1) (z:=.int .u8 0) (rest:=rest) (n:=r.bT.length+n1) (by omega) (by unfold maxLen;omega);have hcp:=fun (A:ab) (rest:List az)=>rm (A:=A) (d:=some 48) (n:=44) (k:=r.bT.length+n1) (m:=n1) (rest:=rest) (a:=r.bT) rfl;have hcv:=fun (q:List UInt8)=>tj l2 q (n:=n1) hl2n.symm;have hsb:=fun (A:ab)=>th A 44 (r.bT.length+n1) (r.bT++l2) (by simp[hl2n]);have hbs:=qY (r.bT++l2);have hce:=fun (A:ab)=>tf A r.bT;have hl0:l2=[]:=zx2 (by omega);have hsl:=fun (A:ab)=>EH (A:=A) (n:=44) (k:=r.bT.length+n1) (xs:=r.bT++List.replicate n1 0) (by simp);have hn:((r.bT.length+n1:Nat):Int)=(r.bT.length:Int):=by omega
   have hrp:r.bT++List.replicate n1 (0:UInt8)=r.bT++l2:=by rw[hl0,h0];rfl
   rw[hn,hrp] at hsl;rw[hrp] at hcp;have R:=y6 @hg (y6 @pR (y6 @tg (y6 @lW (y6 @sZ (y6 @hw1 (y6 @hw2 (y6 @hw3 (y6 @hw4 (y6 @hb (y6 @hnl (y6 @hmk (y6 @hcp (y6 @hcv (y6 @hsb (y6 @hbs (y6 @hce (y6 @hsl (y6 @zM (y6 @jH (y6 @gl (y6 @kV (y6 @hl (y6 @hss (y6 @hs2 (y6 @bu (y6 @si aw))))))))))))))))))))))))))
   repeat' ((first |(with_reducible refine .guard (fun hb =>?_) (fun hb =>?_) <;>try simp only[hb])|(refine U.lv (gs:=lj) [] [] [0,1,2,3,4,5,6,7,8,9,10,11] (by decide +kernel) (dG.of (by simp[jl])) fun K hK =>?_;simp only[jW,lj,List.getD_cons_zero,List.getD_cons_succ,R,simprocAttr])|refine bM.eN rfl fun m =>?_|refine U.aC (by decide +kernel) rfl fun K hK =>?_|refine .flat _ (f1) rfl ?_|refine .flat _ (f2) rfl ?_|(refine .aA [0,1,2,3,6,7,8,29] hK ?_;clear hK K)|(with_reducible refine .done (hK _ ?_);clear hK K)|refine U.of rfl ?_|(with_reducible refine aj.aB (fun h =>?_) (fun h =>?_) <;>try simp only[h])) <;>try simp only[aD,R,zy0,simprocAttr])
   all_goals clear R
   all_goals rfl
 ·have hg:decide ((n1:Int)>0)=true:=decide_eq_true (by omega);cases hb:gp p (i+1) 2==1
  ·have hw0:l2=w:=by
    rw[if_neg] at hl2
    ·exact hl2.symm
    ·intro h;rw[h.1] at hb;cases hb
   subst hw0;generalize gp p (i+1) 2=a2 at *;have hw4:IntKind.i64.wrap ((r.bT.length:Int)+(n1:Int))=((r.bT.length+n1:Nat):Int):=by rw[dV _ (by omega) (by omega)];omega
   have hmk:=fun (A:ab) (rest:List az)=>sv (A:=A) (d:=44) (bytes:=1) (z:=.int .u8 0) (rest:=rest) (n:=r.bT.length+n1) (by omega) (by unfold maxLen;omega);have hcp:=fun (A:ab) (rest:List az)=>rm (A:=A) (d:=some 48) (n:=44) (k:=r.bT.length+n1) (m:=n1) (rest:=rest) (a:=r.bT) rfl;have hcv:=fun (q:List UInt8)=>tj l2 q (n:=n1) hl2n.symm;have hsb:=fun (A:ab)=>th A 44 (r.bT.length+n1) (r.bT++l2) (by simp[hl2n]);have hbs:=qY (r.bT++l2);have hce:=fun (A:ab)=>tf A r.bT;have hsl:=fun (A:ab)=>EG (A:=A) (n:=44) (k:=r.bT.length+n1) (i:=r.bT.length) (xs:=r.bT++List.replicate n1 0) (by simp) (by omega);rw[Nat.add_sub_cancel_left] at hsl;have hcb:=fun (A:ab) (rest:List az)=>zL (A:=A) (d:=some 55) (n:=44) (i:=r.bT.length) (m:=n1) (rest:=rest) (a:=r.bT) (b:=l2) rfl hl2n.symm;have R:=y6 @hg (y6 @hiv (y6 @hat (y6 @hst (y6 @ve (y6 @pR (y6 @tg (y6 @lW (y6 @sZ (y6 @hw1 (y6 @hw2 (y6 @hw3 (y6 @hw4 (y6 @hb (y6 @hnl (y6 @hmk (y6 @hcp (y6 @hcv (y6 @hsb (y6 @hbs (y6 @hce (y6 @hsl (y6 @hcb (y6 @jH (y6 @gl (y6 @kV (y6 @hl (y6 @hss (y6 @hs2 (y6 @bu (y6 @si aw))))))))))))))))))))))))))))))
   repeat' ((first |(with_reducible refine .guard (fun hb =>?_) (fun hb =>?_) <;>try simp only[hb])|(refine U.lv (gs:=lj) [] [] [0,1,2,3,4,5,6,7,8,9,10,11] (by decide +kernel) (dG.of (by simp[jl])) fun K hK =>?_;simp only[jW,lj,List.getD_cons_zero,List.getD_cons_succ,R,simprocAttr])|refine bM.eN rfl fun m =>?_|refine U.aC (by decide +kernel) rfl fun K hK =>?_|refine .flat _ (f1) rfl ?_|refine .flat _ (f2) rfl ?_|refine .flat _ (f3) rfl ?_|(refine .aA [0,1,2,3,6,7,8,29] hK ?_;clear hK K)|(with_reducible refine .done (hK _ ?_);clear hK K)|refine U.of rfl ?_|(with_reducible refine aj.aB (fun h =>?_) (fun h =>?_) <;>try simp only[h])) <;>try simp only[aD,R,zy0,simprocAttr])
   all_goals clear R
   all_goals rfl
  ·obtain ⟨j,hj,hjn⟩:∃ j:Nat,gp p (i+2) (n1:Int)=(j:Int)∧j<n1:=by
    have:=tY (p:=p) (i:=i+2) (n:=n1) (by omega) hpi';obtain ⟨j,hj⟩:=zy1 this.1;exact ⟨j,hj,by omega⟩
   have hw0:w.set j 63=l2:=by
    rw[if_pos ⟨by simpa using hb,by omega⟩,hnl,hj] at hl2;exact hl2
   clear f3 hiv hat hst;have f3:=tH p (i+2) (n1:Int) (by omega) (by omega) (by omega);rw[hj] at f3
   replace f3:aQ Tryz.prog 121 [enc p,.int .i64 ((i+2:Nat):Int),.int .i64 (n1:Int)] (.int .i64 (j:Int)):=f3
   have hiv:=fun (fs:List I)=>V0 (m:=19) (sz:=1) (lo:=0) (l:=n1) (i:=j) (fs:=fs) hjn;rw[Z5] at hiv;have hat:∀ q:List UInt8,kS j [] (some ((w++q).map enc))=some (enc w[j]):=fun q=>by
    have h2:((w++q).map (enc (α:=UInt8)))[j]?=some (enc w[j]):=by
     rw[zy4,zz8 (by omega),zz0 (by omega)];rfl
    simp only[kS,h2,nJ,pf]
   have hst:∀ (A:ab) (q:List UInt8) (u:UInt8) (rest:List az),eO A none 19 [j] (.agg ((w++q).map enc)) (.int .u8 63) rest (some (enc u))=av rest (A.aS 19 (.box (.agg ((l2++q).map enc)))):=fun A q u rest=>by
    have:=Zo (A:=A) (n:=19) (i:=j) (xs:=w++q) 63 u (rest:=rest) rfl (by simp;omega);rw[List.set_append_left _ _ (by omega),hw0] at this;exact this
   generalize gp p (i+1) 2=a2 at *;have hw4:IntKind.i64.wrap ((r.bT.length:Int)+(n1:Int))=((r.bT.length+n1:Nat):Int):=by rw[dV _ (by omega) (by omega)];omega
   have hmk:=fun (A:ab) (rest:List az)=>sv (A:=A) (d:=44) (bytes:=1) (z:=.int .u8 0) (rest:=rest) (n:=r.bT.length+n1) (by omega) (by unfold maxLen;omega);have hcp:=fun (A:ab) (rest:List az)=>rm (A:=A) (d:=some 48) (n:=44) (k:=r.bT.length+n1) (m:=n1) (rest:=rest) (a:=r.bT) rfl;have hcv:=fun (q:List UInt8)=>tj l2 q (n:=n1) hl2n.symm;have hsb:=fun (A:ab)=>th A 44 (r.bT.length+n1) (r.bT++l2) (by simp[hl2n]);have hbs:=qY (r.bT++l2);have hce:=fun (A:ab)=>tf A r.bT;have hsl:=fun (A:ab)=>EG (A:=A) (n:=44) (k:=r.bT.length+n1) (i:=r.bT.length) (xs:=r.bT++List.replicate n1 0) (by simp) (by omega);rw[Nat.add_sub_cancel_left] at hsl;have hcb:=fun (A:ab) (rest:List az)=>zL (A:=A) (d:=some 55) (n:=44) (i:=r.bT.length) (m:=n1) (rest:=rest) (a:=r.bT) (b:=l2) rfl hl2n.symm;have R:=y6 @hg (y6 @hiv (y6 @hat (y6 @hst (y6 @ve (y6 @pR (y6 @tg (y6 @lW (y6 @sZ (y6 @hw1 (y6 @hw2 (y6 @hw3 (y6 @hw4 (y6 @hb (y6 @hnl (y6 @hmk (y6 @hcp (y6 @hcv (y6 @hsb (y6 @hbs (y6 @hce (y6 @hsl (y6 @hcb (y6 @jH (y6 @gl (y6 @kV (y6 @hl (y6 @hss (y6 @hs2 (y6 @bu (y6 @si aw))))))))))))))))))))))))))))))
   repeat' ((first |(with_reducible refine .guard (fun hb =>?_) (fun hb =>?_) <;>try simp only[hb])|(refine U.lv (gs:=lj) [] [] [0,1,2,3,4,5,6,7,8,9,10,11] (by decide +kernel) (dG.of (by simp[jl])) fun K hK =>?_;simp only[jW,lj,List.getD_cons_zero,List.getD_cons_succ,R,simprocAttr])|refine bM.eN rfl fun m =>?_|refine U.aC (by decide +kernel) rfl fun K hK =>?_|refine .flat _ (f1) rfl ?_|refine .flat _ (f2) rfl ?_|refine .flat _ (f3) rfl ?_|(refine .aA [0,1,2,3,6,7,8,29] hK ?_;clear hK K)|(with_reducible refine .done (hK _ ?_);clear hK K)|refine U.of rfl ?_|(with_reducible refine aj.aB (fun h =>?_) (fun h =>?_) <;>try simp only[h])) <;>try simp only[aD,R,zy0,simprocAttr])
   all_goals clear R
   all_goals rfl
def kL(r:db)(p:List Int):db:=⟨lJ r.dn p 0,lJ r.copy p 3⟩
theorem tJ(r:db)(h:r.small)(p:List Int)(hp:p.length≤100000000000000)(hpi:∀ x∈p,-9223372036854775808≤x∧x≤9223372036854775807):aQ Tryz.prog 22 [enc r,enc p] (enc (kL r p)):=by
 refine aQ.bO Tryz.func22 HY Jh KE (t8 rfl) (fun hwf W0 bE E1 =>?_);simp only[yL,De,bD,Z5];clear hwf;have f1:=xr r.dn h.1 p 0 (by omega) hp hpi;have f2:=xr r.copy h.2 p 3 (by omega) hp hpi
 replace f1:aQ Tryz.prog 75 [enc r.dn,enc p,.int .i64 0] (enc (lJ r.dn p 0)):=f1
 replace f2:aQ Tryz.prog 75 [enc r.copy,enc p,.int .i64 3] (enc (lJ r.copy p 3)):=f2
 simp only[kL];generalize lJ r.dn p 0=a at *;generalize lJ r.copy p 3=b at *;have R:=y6 @kV (y6 @jH (y6 @mB (y6 @Ab (y6 @gl aw))))
 repeat' ((first |refine U.aC (by decide +kernel) rfl fun K hK =>?_|refine .flat _ (f1) rfl ?_|refine .flat _ (f2) rfl ?_|(refine .aA [0,1,2,4] hK ?_;clear hK K)|(with_reducible refine .done (hK _ ?_);clear hK K)|refine U.of rfl ?_|(with_reducible refine aj.aB (fun h =>?_) (fun h =>?_) <;>try simp only[h])) <;>try simp only[aD,R,simprocAttr])
 all_goals clear R
 all_goals rfl
def iE:ah:=⟨2,0,5,10,12,0,0,[97]⟩
def iO:List UInt8:=[51,55,52,56,51,55,32,50,32,48,32,53,32,49,48,32,49,50,32,48,32,48,32,97,10]
def cR:db:=⟨⟨[],iO⟩,⟨[],[]⟩⟩
theorem Mv:kl 1 iE=(iO,374837,0):=by decide +kernel
theorem My:kC 1 iO=(iE,374837,0):=by decide +kernel
theorem MA:qD jw [] [] iE=(cR,[iE],0):=by decide +kernel
theorem Mw:(kv (kL cR [])).2=[]:=by decide +kernel
theorem Mx:(kv (kL cR [25,0,0])).2=[iE]:=by decide +kernel
theorem Mz:(kv (kL cR [25,1,3])).2=[]:=by decide +kernel
theorem Mu:kv (pn (oL cR) false)=(⟨⟨iO,[]⟩,⟨iO,[]⟩⟩,[iE]):=by decide +kernel
theorem mn:iO.length=25:=rfl
theorem Gh:iO.drop 7=[50,32,48,32,53,32,49,48,32,49,50,32,48,32,48,32,97,10]:=rfl
theorem Mk:I.agg [.agg [.int .i64 2,.int .i64 0],.int .i64 5,.int .i64 10,.int .i64 12,.agg [.int .i64 0,.int .i64 0],.ak ⟨#[97]⟩]=enc iE:=rfl
theorem wW(p:List Int):(kL cR p).small:=by
 refine ⟨⟨?_,?_⟩,⟨?_,?_⟩⟩ <;>simp[kL,lJ,wZ,EN,tx,cR,mn] <;>omega
theorem FG:aQ Tryz.prog 14 [] (enc true):=by
 refine aQ.bO Tryz.func14 HJ I4 Kq (t8 rfl) (fun hwf W0 bE E1 =>?_);simp only[yA,C1,bD];clear hwf;have f29:=FR 1 iE;rw[Mv] at f29;have f31:=FT 1 iO (by rw[mn];omega);rw[My] at f31;have f35:=FU jw ⟨⟨by decide,by decide⟩,⟨by decide,by decide⟩⟩ [] [] (by decide) (by decide) (fun _=>xy) iE;rw[MA] at f35;have h0:cR.small:=by refine ⟨⟨?_,?_⟩,⟨?_,?_⟩⟩ <;>simp[cR,mn]
 have t1:=tJ cR h0 [] (by simp) (by simp);have t2:=tJ cR h0 [25,0,0] (by simp) (by simp);have t3:=tJ cR h0 [25,1,3] (by simp) (by simp);have o1:=qH _ (wW []);have o2:=qH _ (wW [25,0,0]);have o3:=qH _ (wW [25,1,3]);have f20:=FP cR h0;have f24:=FQ (oL cR) false;have o4:=qH (pn (oL cR) false) (by refine ⟨⟨?_,?_⟩,⟨?_,?_⟩⟩ <;>simp[oL,pn,cR,dh.all,mn]);rw[Mw] at o1;rw[Mx] at o2;rw[Mz] at o3;rw[Mu] at o4;generalize kL cR []=T1 at *;generalize kL cR [25,0,0]=T2 at *;generalize kL cR [25,1,3]=T3 at *;generalize oL cR=T4 at *;generalize pn T4 false=T5 at *;generalize (kv T1).1=U1 at *;generalize (kv T2).1=U2 at *;generalize (kv T3).1=U3 at *
 dsimp only at f29 f31 f35 o4
 have hl:lT (enc (ay.of iO))=some (.int .i64 25):=by rw[oK,mn];rfl
 have hww:cR.dn.ev=iO:=rfl;have hl2:(((ay.of iO).l.length:Nat):Int)=25:=by rw[ay.dI,mn];rfl
 have hd1:decide (cR.copy=(⟨[],[]⟩:dh))=true:=rfl;have hw7:IntKind.i64.wrap 7=7:=by decide
 have hl1:(((([iE]:List ah).length:Nat):Int)==1)=true:=rfl;have hn0:(((([]:List ah).length:Nat):Int)==0)=true:=rfl;have hse:bN .eql (enc (ay.of [50,32,48,32,53,32,49,48,32,49,50,32,48,32,48,32,97,10])) (.ak ⟨#[50,32,48,32,53,32,49,48,32,49,50,32,48,32,48,32,97,10]⟩)=some (.bool true):=by
  show bN .eql (enc (ay.of _)) (enc (ay.of [50,32,48,32,53,32,49,48,32,49,50,32,48,32,48,32,97,10]))=_
  rw[lC];simp
 have hp1:fJ [.int .i64 0,.int .i64 0] [(0,.int .i64 2)]=some [.int .i64 2,.int .i64 0]:=rfl;have hp2:fJ [.agg [.int .i64 0,.int .i64 0],.int .i64 0,.int .i64 0,.int .i64 0,.agg [.int .i64 0,.int .i64 0],.ak ⟨#[]⟩] [(0,.agg [.int .i64 2,.int .i64 0]),(1,.int .i64 5),(2,.int .i64 10),(3,.int .i64 12),(5,.ak ⟨#[97]⟩)]=some [.agg [.int .i64 2,.int .i64 0],.int .i64 5,.int .i64 10,.int .i64 12,.agg [.int .i64 0,.int .i64 0],.ak ⟨#[97]⟩]:=rfl;have hb2:gr 1 (some [.int .i64 25,.int .i64 0,.int .i64 0])=some (enc ([25,0,0]:List Int)):=rfl;have hb3:gr 1 (some [.int .i64 25,.int .i64 1,.int .i64 3])=some (enc ([25,1,3]:List Int)):=rfl;have hs:=wA (ay.of iO) (i:=7) (by rw[ay.dI,mn];omega);rw[ay.dI,Gh] at hs
 replace hs:ep (.ss true false) [enc (ay.of iO),.int .i64 7]=some (enc (ay.of [50,32,48,32,53,32,49,48,32,49,50,32,48,32,48,32,97,10])):=hs
 have R:=y6 @hw7 (y6 @hl1 (y6 @hn0 (y6 @hse (y6 @hww (y6 @hl2 (y6 @hd1 (y6 @hl (y6 @hb2 (y6 @hb3 (y6 @hs (y6 @hp1 (y6 @hp2 (y6 @lC (y6 @Mk (y6 @eA (y6 @ee (y6 @Ab (y6 @jH (y6 @mB (y6 @gl (y6 @kV (y6 @bu aw))))))))))))))))))))))
 repeat' ((first |(with_reducible refine .guard (fun hb =>?_) (fun hb =>?_) <;>try simp only[hb])|refine U.aC (by decide +kernel) rfl fun K hK =>?_|refine .flat _ (f29) rfl ?_|refine .flat _ (f31) rfl ?_|refine .flat _ (f35) rfl ?_|refine .flat _ (t1) rfl ?_|refine .flat _ (o1) rfl ?_|refine .flat _ (t2) rfl ?_|refine .flat _ (o2) rfl ?_|refine .flat _ (t3) rfl ?_|refine .flat _ (o3) rfl ?_|refine .flat _ (f20) rfl ?_|refine .flat _ (f24) rfl ?_|refine .flat _ (o4) rfl ?_|refine .lead _ (f35) ?_|refine .lead _ (o1) ?_|refine .lead _ (o2) ?_|refine .lead _ (o3) ?_|refine .lead _ (o4) ?_|(refine .aA [0,1,2,3,4,5,6,7,8,9,10,12,14,16,17,18,19,20] hK ?_;clear hK K)|(with_reducible refine .done (hK _ ?_);clear hK K)|refine U.of rfl ?_|(with_reducible refine aj.aB (fun h =>?_) (fun h =>?_) <;>try simp only[h])) <;>try simp only[aD,R,eq_self,decide_true,simprocAttr])
 all_goals clear R
 all_goals rfl
end Go.Proofs.YtoffnnjbplgnaaaGreatDoor
namespace Go.Proofs.YtoffnnjbplgnaaaGreatDoor
open Go Go.Abs Go.Shelf Go.RowKit Go.Sort Go.Proofs
open Go.Abs.Enc (enc)
theorem J9(a b:Item)(W:World):Calls Tryz.prog 140 #[.agg #[.int .i64 a.aM,.int .i64 a.no],.agg #[.int .i64 b.aM,.int .i64 b.no]] W fun e w'=>e=.returned (.int .i64 (gu a b))∧∃ q os',w'=grow (W.drewN q) os':=by
 go_enter Tryz.func140,Tryz.ntmps140
 obtain ⟨c1,hc1⟩:∃ c1,c1=Obj.cells #[Value.int .i64 a.aM,.int .i64 a.no] 48:=⟨_,rfl⟩
 obtain ⟨c2,hc2⟩:∃ c2,c2=Obj.cells #[Value.int .i64 b.aM,.int .i64 b.no] 48:=⟨_,rfl⟩
 go_wp2
 rw[←hc1,←hc2];obtain ⟨W2,hW2⟩:∃ W2,W2=((W.alloc c1).alloc c2):=⟨_,rfl⟩
 have e1:W2.heap[W.heap.size]?=some c1:=by rw[hW2,heap_alloc_old _ _ (by simp),heap_alloc_new]
 have e2:W2.heap[W.heap.size+1]?=some c2:=by
  have:=heap_alloc_new (W.alloc c1) c2;rw[World.size_alloc] at this;rw[hW2];exact this
 have k1:W2.cell? ⟨W.heap.size,0,none⟩=some (.int .i64 a.aM):=by simp[World.cell?,e1,hc1]
 have k2:W2.cell? ⟨W.heap.size,1,none⟩=some (.int .i64 a.no):=by simp[World.cell?,e1,hc1]
 have k3:W2.cell? ⟨W.heap.size+1,0,none⟩=some (.int .i64 b.aM):=by simp[World.cell?,e2,hc2]
 have k4:W2.cell? ⟨W.heap.size+1,1,none⟩=some (.int .i64 b.no):=by simp[World.cell?,e2,hc2]
 rw[←hW2];have d1:W2.drew.cell? ⟨W.heap.size,0,none⟩=some (.int .i64 a.aM):=k1;have d2:W2.drew.cell? ⟨W.heap.size,1,none⟩=some (.int .i64 a.no):=k2;have d3:W2.drew.cell? ⟨W.heap.size+1,0,none⟩=some (.int .i64 b.aM):=k3;have d4:W2.drew.cell? ⟨W.heap.size+1,1,none⟩=some (.int .i64 b.no):=k4;have hgr:∃ os,grow W os=W2:=⟨#[c1,c2],by rw[hW2,alloc_eq_grow,alloc_eq_grow,grow_grow];rfl⟩
 clear hc1 hc2 hW2 e1 e2;generalize W.heap.size=S at *;obtain ⟨r,hr⟩:∃ r,gu a b=r:=⟨_,rfl⟩
 have h160:Calls Tryz.prog 160 #[.slice (some ⟨W2.heap.size,0,none⟩) 2 2] ((W2.drew).alloc (Obj.cells #[.int .i64 (eJ a.aM b.aM),.int .i64 (eJ a.no b.no)] 3)) fun e w'=>e=.returned (.int .i64 r)∧w'=(W2.drew).alloc (Obj.cells #[.int .i64 (eJ a.aM b.aM),.int .i64 (eJ a.no b.no)] 3):=by
  rw[←hr];exact X1 _ _ _ W2.heap.size (heap_alloc_new W2.drew _)
 refine wp_region_still_tail 10 (by kernel_rfl) (by kernel_rfl) ?_
 change wpStill _ _ W2.drew _ _ _
 simp only[List.take_succ_cons,List.take_zero,List.drop_succ_cons,List.drop_zero]
 repeat (first | still_step | still_call (J7 _ _ _))
 refine wpStill_nil ?_
 change wpList _ _ _ _ _ W2.drew
 go_wp2_with (go_at_call 160;refine h160.mono ?_;rintro e w' ⟨rfl,rfl⟩)
 go_ret
 refine ⟨by rw[hr];rfl,?_⟩;obtain ⟨os,hos⟩:=hgr;exact ⟨1,os ++ #[Obj.cells #[.int .i64 (eJ a.aM b.aM),.int .i64 (eJ a.no b.no)] 3],by rw[←hos,alloc_eq_grow,←grow_grow];rfl⟩
theorem VN(W:World)(o1 o2:Obj)(q:Nat)(os:Array Obj):grow (((W.alloc o1).alloc o2).drewN q) os=grow (W.drewN q) ((#[o1] ++ #[o2])++os):=by
 rw[alloc_eq_grow,alloc_eq_grow,grow_grow]
 show grow (grow (W.drewN q) (#[o1] ++ #[o2])) os=_
 rw[grow_grow]
theorem J3(x y:ah)(W:World):Calls Tryz.prog 142 #[.agg (cM x).toArray,.agg (cM y).toArray] W fun e w'=>e=.returned (.int .i64 (gu x.aY y.aY))∧∃ q os',w'=grow (W.drewN q) os':=by
 have hcon:=fun W'=>J9 x.aY y.aY W';simp only[ah.aY] at hcon ⊢;simp only[cM];generalize gu ⟨x.aM,x.no⟩ ⟨y.aM,y.no⟩=r at hcon ⊢
 go_enter Tryz.func142,Tryz.ntmps142
 go_wp2_with (go_at_call 140;refine (hcon _).mono ?_;rintro e w' ⟨rfl,q,os',rfl⟩)
 go_ret
 exact ⟨rfl,q,_,VN _ _ _ _ _⟩
theorem J6(aG off size:Nat)(w:World):CmpLays Tryz.prog 142 #[] cM 8 (fun x y=>gu x.aY y.aY) aG off size w:=fun _ _ _ _ x y=>J3 x y _
theorem sg(x y:ah):ltOf (fun x y:ah=>gu x.aY y.aY) x y=cW x y:=by
 show decide (gu x.aY y.aY<0)=_
 rw[zI];rfl
theorem Zx:SWO (ltOf fun x y:ah=>gu x.aY y.aY) where
 irrefl x:=by rw[sg];simp[cW]
 trans x y z h1 h2:=by rw[sg] at *;exact xX h1 h2
 ntrans x y z h1 h2:=by
  rw[sg] at *;simp only[cW,decide_eq_false_iff_not] at *;omega
theorem mz(x:ah):(cM x).length=8:=rfl
theorem JT(x:ah):∀ v∈cM x,v.oneCell'=true:=by
 intro v hv;simp only[cM,zy8,List.not_mem_nil,or_false] at hv;rcases hv with rfl | rfl | rfl | rfl | rfl | rfl | rfl | rfl <;>rfl
theorem DY{w:World}{D:aJ}{E:aN} : ∀ {xs:List ah} {cs:List Value},aH w D E (xs.map enc) cs→cs=xs.flatMap cM∧∀ x∈xs,ae w D E (enc x) (cM x)
 | [],cs,h=>by
  simp only[zz6,aH] at h;subst h;exact ⟨rfl,by simp⟩
 |x::xs,cs,h=>by
  simp only[Z3,aH] at h;obtain ⟨c1,c2,rfl,h1,h2⟩:=h;obtain ⟨rfl,h3⟩:=DY h2;have e:=DV h1;subst e;refine ⟨rfl,fun y hy =>?_⟩;rcases zy8.1 hy with rfl | hy
  ·exact h1
  ·exact h3 y hy
theorem DX{w:World}{D:aJ}{E:aN} : ∀ {xs:List ah},(∀ x∈xs,ae w D E (enc x) (cM x))→aH w D E (xs.map enc) (xs.flatMap cM)
 | [],_=>rfl
 |x::xs,h=>by
  simp only[Z3,aH,List.flatMap_cons];exact ⟨_,_,rfl,h x (by simp),DX fun y hy=>h y (by simp[hy])⟩
theorem AE:∀ (l:List ah) (i j:Nat) (hi:i<l.length),j<8→(l.flatMap cM)[i*8+j]?=(cM l[i])[j]?
 |x::l,0,j,_,hj=>by
  rw[List.flatMap_cons,zz8 (by rw[mz];omega)];simp
 |x::l,i+1,j,hi,hj=>by
  rw[List.flatMap_cons,zx3 (by rw[mz];omega),mz,show (i+1)*8+j-8=i*8+j from by omega];rw[AE l i j (by simpa using hi) hj];simp
theorem kj(l:List ah):(l.flatMap cM).length=l.length*8:=by
 induction l with
 |nil=>rfl
 |cons x l ih=>rw[List.flatMap_cons,Z1,ih,mz,zx0];omega
theorem AD(l:List ah):(flatK cM 8 l.toArray).toList=l.flatMap cM:=by
 apply List.ext_getElem?;intro t;by_cases ht:t<l.length*8
 ·have h1:=get_flatK cM 8 l.toArray t (by simpa using ht);have hi:t / 8<l.length:=by omega
  have h2:=AE l (t / 8) (t%8) hi (Nat.mod_lt _ (by decide));rw[show t / 8*8+t%8=t from by omega] at h2;have h3:t<(flatK cM 8 l.toArray).size:=by simpa using ht
  rw[h2,zy2,zx6 h3];rw[getElem!_pos _ t h3] at h1;rw[h1,getElem!_pos l.toArray (t / 8) (by simpa using hi),getElem!_pos _ (t%8) (by rw[mz];omega),zz0 (by rw[mz];omega)];rfl
 ·rw[zy2,Array.getElem?_eq_none (by simp;omega),List.getElem?_eq_none (by rw[kj];omega)]
theorem Yp{xs ys q:List ah}(hl:ys.length=xs.length){cs:Array Value}(hc:cs.toList=(xs++q).flatMap cM):(Sort.putCells id 0 (flatK cM 8 ys.toArray) cs).toList=(ys++q).flatMap cM:=by
 apply List.ext_getElem?;intro k;have hcl:=congrArg List.length hc;rw[kj,Z1,zy5] at hcl;have h1:cs[k]?=((xs++q).flatMap cM)[k]?:=by rw[←hc,zy2]
 rw[zy2,Sort.putCells,Array.getElem?_mapIdx,h1];simp only[size_flatK,List.size_toArray,zx7,true_and,Z5,Nat.sub_zero,List.flatMap_append];by_cases hk:k<ys.length*8
 ·simp only[hk,if_true];rw[zz8 (by rw[kj];omega),zz8 (by rw[kj];omega),zz0 (by rw[kj];omega)];have h2:(flatK cM 8 ys.toArray)[k]?=(ys.flatMap cM)[k]?:=by rw[←AD,zy2]
  have h3:k<(flatK cM 8 ys.toArray).size:=by simpa using hk
  rw[←h2,zx6 h3];simp only[Z8,id];rw[getElem!_pos _ k h3]
 ·simp only[hk,if_false];rw[zx3 (by rw[kj];omega),zx3 (by rw[kj];omega),kj,kj,hl];cases ((q.flatMap cM)[k-xs.length*8]?) <;>rfl
def kE(n:Nat)(ws:List ah):List (Nat×ai):=[(n,.box (.agg (ws.map enc)))]
def EO(l q:List ah):cd:=fun r os'=>r=.tuple []∧os'=kE 1000000 (da l++q)
theorem Yv(x:ah):(enc x:I).flat=true:=rfl
theorem FI(l q:List ah)(hne:l≠[])(hn:l.length≤1000)(hp:l.Pairwise (fun x y=>¬ (x.aM=y.aM∧x.no=y.no))):eT Tryz.prog 141 [.view 1000000 [] 8 0 l.length,.func 142 []] (kE 1000000 (l++q)) (EO l q):=by
 refine ⟨HL,fun w D E vs _ hD hO hv =>?_⟩;have ho:=hO.bB 1000000;simp only[kE,aE,if_true] at ho;obtain ⟨b,cs,T,ao,-,hb0,hr,hnD⟩:=ho;have hne2:l++q≠[]:=by intro h;exact hne (List.append_eq_nil_iff.1 h).1
 have hb:=hb0.plain (AF hne2 rfl);have hEn:∀ n,n≠1000000→E n=none:=fun n hn=>by
  have:=hO.bB n;simpa only[kE,aE,if_neg hn,cJ] using this
 simp only[ar] at hv;obtain ⟨v,rest,cs',rfl,hpk,hr',f,rest2,cs2,rfl,hp2,hr2,rfl⟩:=hv;obtain ⟨b',aK,off,l',hE',hoff,hpart,rfl,hl1,hl2,hl3⟩:=hr';rw[ao] at hE';simp only[v6,bx.aI.injEq] at hE';obtain ⟨rfl,rfl⟩:=hE';have hoff':off=0:=by
  have:(some 0:Option Nat)=some off:=by rw[←hoff];rfl
  injection this with this;exact this.symm
 subst hoff';have hp':v=.slice (some ⟨b,0,none⟩) l.length (l'.length-0):=by
  have:[Value.slice (some ⟨b,0+0*8,none⟩) l.length (l'.length-0)]=[v]:=hpk;simpa using this.symm
 subst hp';have hf:f=.func (.func 142) #[] #[]:=by
  simp only[ae] at hr2;obtain ⟨vs2,e2,e3⟩:=hr2;have h3:cs2=[f]:=hp2;rw[e2] at h3;simp only[ar] at e3;subst e3;have:=h3.symm;simp only[zz9,and_true] at this;rw[this];rfl
 subst hf;obtain ⟨hcs,hrg⟩:=DY (xs:=l++q) hr;have hbs:b<w.heap.size:=hb0.lt;have hfl:=AD l;have hH:HoldsK cM 8 w b 0 l.toArray:=fun j hj=>by
  have hj':j<l.length*8:=by simpa using hj
  constructor
  ·simp only[World.cell?,hb,Option.isSome_none,Z4,if_false,Z5];rw[←zy2,hcs,List.flatMap_append,zz8 (by rw[kj];exact hj'),←hfl,zy2,zx6 hj,getElem!_pos _ j hj];rfl
  ·simp[World.frozen?,hb]
 have eg:∀ args w,(callFunc 142 args).run Tryz.prog w=.ok (.enter 142 args) w:=enters_of Tryz.func142 (by kernel_rfl) rfl;refine (AnyQ.slices_SortFunc (P:=Tryz.prog) (ρ:=vl) BK 8 Tryz.isAgg50 Tryz.sizeOf50 cM mz JT (fun x y=>gu x.aY y.aY) Zx 142 #[] b 0 (l'.length-0) l.toArray w eg (J6 b 0 _ w) hH hbs (by simp;omega)).mono ?_;rintro e w' ⟨rfl,d',n,os,hperm,hsort,rfl⟩;obtain ⟨s,rfl⟩:∃ s:List ah,d'=s.toArray:=⟨d'.toList,by simp⟩
 have hlen:s.length=l.length:=by simpa using hperm.1
 have hps:s.Perm l:=by
  have:=hperm.2.2;simp only[List.size_toArray,Array.toList_extract,List.extract_eq_take_drop,List.drop_zero,Nat.sub_zero] at this;rw[List.take_of_length_le (by omega),List.take_of_length_le (by omega)] at this;exact this
 have hss:s.Pairwise (fun x y=>cW x y=true):=by
  rw[List.pairwise_iff_getElem];intro i j hi hj hij;have h1:=hsort i j (zx7 _) hij (by simp;omega);rw[sg,getElem!_pos _ j (by simpa using hj),getElem!_pos _ i (by simpa using hi)] at h1;have h2:=List.pairwise_iff_getElem.1 ((List.Perm.pairwise_iff (R:=fun x y:ah=>¬ (x.aM=y.aM∧x.no=y.no)) (fun h k=>h ⟨k.1.symm,k.2.symm⟩) hps).2 hp) i j hi hj hij;simp only[List.getElem_toArray] at h1;simp only[cW,decide_eq_false_iff_not,decide_eq_true_eq] at h1 ⊢;omega
 have hst:=Zh hp hps hss;subst hst;have hsz8:(flatK cM 8 (da l).toArray).size=(da l).length*8:=by simp
 have hb1:(putRowK cM 8 (Sort.ahead w n) b 0 (da l).toArray).heap[b]?=some (.cells (putCells id 0 (flatK cM 8 (da l).toArray) cs) T (0,0)):=by
  simp[putRowK,putRow,mapBlock,Sort.ahead,Array.getElem?_modify,hb,onCells]
 have hother:∀ k,k<w.heap.size→k≠b→(sortWorldK cM 8 w b 0 n (da l).toArray os).heap[k]?=w.heap[k]?:=fun k hk hkb=>by
  rw[sortWorldK,heap_grow_old _ _ (by simpa[putRowK,putRow,mapBlock,Sort.ahead] using hk)];simp[putRowK,putRow,mapBlock,Sort.ahead,Array.getElem?_modify,Ne.symm hkb]
 have hb2:(sortWorldK cM 8 w b 0 n (da l).toArray os).heap[b]?=some (.cells (putCells id 0 (flatK cM 8 (da l).toArray) cs) T (0,0)):=by
  rw[sortWorldK,heap_grow_old _ _ (by simpa[putRowK,putRow,mapBlock,Sort.ahead] using hbs)];exact hb1
 have hsz:w.heap.size≤(sortWorldK cM 8 w b 0 n (da l).toArray os).heap.size:=by simp[sortWorldK,putRowK,putRow,mapBlock,Sort.ahead]
 have hw1:(sortWorldK cM 8 w b 0 n (da l).toArray os).os=w.os:=rfl;have hw2:(sortWorldK cM 8 w b 0 n (da l).toArray os).tape=w.tape:=rfl;have hw3:(sortWorldK cM 8 w b 0 n (da l).toArray os).output=w.output:=rfl;revert hother hb2 hsz hw1 hw2 hw3;generalize sortWorldK cM 8 w b 0 n (da l).toArray os=w2;intro hother hb2 hsz hw1 hw2 hw3;have hmem:∀ x∈da l++q,ae w2 D E (enc x) (cM x):=fun x hx=>ae.flat _ _ (Yv x) (hrg x (by
  rcases zy9.1 hx with h | h
  ·exact List.mem_append_left _ (hps.mem_iff.1 h)
  ·exact List.mem_append_right _ h))
 refine ⟨.tuple #[],D,E,.tuple [],kE 1000000 (da l++q),rfl,⟨rfl,rfl⟩,⟨[],rfl,rfl⟩,⟨fun m =>?_,hO.cz⟩,⟨hw1,hw2,hw3,hsz,fun k hk =>?_⟩,fun _ _ h=>h,fun b0 o h=>zx8 (hD b0 o h) hsz,fun _ _ h _ _=>h,fun m e h _=>⟨e,h,bx.fk.refl e⟩,⟨fun b0 o u hd hc =>?_,fun b0 es ck hd hc =>?_⟩⟩
 ·by_cases hm:m=1000000
  ·subst hm;simp only[kE,aE,if_true];refine ⟨b,_,T,?_,.inr ⟨1000000,_,ao,rfl⟩,.Ca hb2,?_,hnD⟩
   ·rw[ao]
    congr 2
    show bS.eL (I.cF _)=bS.eL (I.cF _)
    rw[wG (xs:=l++q) (ys:=da l++q) (by rw[Z1,Z1,hlen])]
   ·show aH w2 D E _ _
    rw[Yp hlen hcs];exact DX hmem
  ·simp only[kE,aE,if_neg hm,cJ];exact hEn m hm
 ·by_cases hk2:k<w.heap.size
  ·exact hother k hk2 fun e=>hk (.inr ⟨1000000,_,ao,by rw[e];rfl⟩)
  ·exact absurd (.inl (Nat.le_of_not_lt hk2)) hk
 ·have hne:b0≠b:=fun e=>hnD o (e▸hd);simp only[World.cell?,hother b0 (hD b0 o hd) hne] at hc ⊢;exact hc
 ·have hne:b0≠b:=fun e=>hnD 0 (e▸hd);rw[hother b0 (hD b0 0 hd) hne];exact hc
end Go.Proofs.YtoffnnjbplgnaaaGreatDoor
namespace Go.Proofs.YtoffnnjbplgnaaaGreatDoor
open Go Go.Abs
open Go.Abs.Enc (enc)
def kh(a:Item):List ah→Nat→Int
 | [],_=>-1
 |r::l,i=>if r.aY=a then (i:Int) else kh a l (i+1)
theorem F9(l:List ah)(a:Item)(hl:l.length≤4000000000000):aQ Tryz.prog 96 [enc l,enc a] (enc (kh a l 0)):=by
 refine aQ.bO Tryz.func96 IA JO Lc (t8 rfl) (fun hwf W0 bE E1 =>?_);simp only[zj,DP,bD,Z5];clear hwf;have R:=aw
 repeat' ((first |refine U.aC (by decide +kernel) rfl fun K hK =>?_|(refine .aA [0,1,3,4,5,9,18] hK ?_;clear hK K)|(with_reducible refine .done (hK _ ?_);clear hK K)|refine U.of rfl ?_|(with_reducible refine aj.aB (fun h =>?_) (fun h =>?_) <;>try simp only[h])) <;>try simp only[aD,R,simprocAttr])
 all_goals clear R
 refine U.loop (fun i:Nat=>aq [(0,enc l),(3,.ptr 3 []),(5,.int .i64 i)] [(3,.box (enc a))]) (fun i=>i≤l.length∧kh a l 0=kh a (l.drop i) i) (fun i=>l.length-i) 0 ⟨zx7 _,by simp⟩ ?_ ?_
 ·refine bl.b6 ?_ ?_ ?_ ?_ <;>simp[bG,bJ,bF,bA,al,bH,cw,I.only,ai.only,bp]
  all_goals rfl
 rintro i ⟨hi,heq⟩;rw[heq];by_cases hlt:i<l.length
 ·have hlc:=eC hlt;have he:=fun A=>ec (A:=A) 8 hlt rfl;have hw:=ew (i:=i) (by omega);have hd:=List.drop_eq_getElem_cons hlt;rw[hd,kh] at heq ⊢;generalize l[i]=r at *;by_cases q:r.aY=a
  ·rw[if_pos q];have q1:decide (r.aY=a)=true:=decide_eq_true q;have R:=y6 @hlc (y6 @he (y6 @hw (y6 @q1 aw)))
   repeat' ((first |refine U.aC (by decide +kernel) rfl fun K hK =>?_|(refine .aA [0,1,3,4,5,9,18] hK ?_;clear hK K)|(with_reducible refine .done (hK _ ?_);clear hK K)|refine U.of rfl ?_|(with_reducible refine aj.aB (fun h =>?_) (fun h =>?_) <;>try simp only[h])) <;>try simp only[aD,R,simprocAttr])
   all_goals clear R
   all_goals rfl
  ·rw[if_neg q] at heq ⊢;have q1:decide (r.aY=a)=false:=decide_eq_false q;have R:=y6 @hlc (y6 @he (y6 @hw (y6 @q1 aw)))
   repeat' ((first |refine U.aC (by decide +kernel) rfl fun K hK =>?_|(refine .aA [0,1,3,4,5,9,18] hK ?_;clear hK K)|(with_reducible refine .done (hK _ ?_);clear hK K)|refine U.of rfl ?_|(with_reducible refine aj.aB (fun h =>?_) (fun h =>?_) <;>try simp only[h])) <;>try simp only[aD,R,simprocAttr])
   all_goals clear R
   refine ⟨i+1,⟨by omega,rfl⟩,by omega,?_⟩;clear hd heq;refine bl.b6 ?_ ?_ ?_ ?_ <;>simp[bG,bJ,bF,bA,al,bH,cw,I.only,ai.only,bp]
   all_goals rfl
 ·have hlc:=eV hlt;rw[zx9 (by omega),kh];have R:=y6 @hlc aw
  repeat' ((first |refine U.aC (by decide +kernel) rfl fun K hK =>?_|(refine .aA [0,1,3,4,5,9,18] hK ?_;clear hK K)|(with_reducible refine .done (hK _ ?_);clear hK K)|refine U.of rfl ?_|(with_reducible refine aj.aB (fun h =>?_) (fun h =>?_) <;>try simp only[h])) <;>try simp only[aD,R,simprocAttr])
  all_goals clear R
  all_goals rfl
theorem Az{a:Item} : ∀ {l:List ah} {i:Nat} {r:ah},l.find? (fun r=>decide (r.aY=a))=some r→∃ k,k<l.length∧kh a l i=((i+k:Nat):Int)∧l[k]?=some r
 | [],_,_,h=>by simp at h
 |q::l,i,r,h=>by
  rw[kh];by_cases e:q.aY=a
  ·rw[List.find?_cons_of_pos (by simpa using e)] at h;cases h;exact ⟨0,by simp,by rw[if_pos e];simp,rfl⟩
  ·rw[List.find?_cons_of_neg (by simpa using e)] at h;obtain ⟨k,h1,h2,h3⟩:=Az (i:=i+1) h;exact ⟨k+1,by simpa using h1,by rw[if_neg e,h2];congr 1;omega,h3⟩
theorem Ay{a:Item} : ∀ {l:List ah} {i:Nat},l.find? (fun r=>decide (r.aY=a))=none→kh a l i=-1
 | [],_,_=>rfl
 |q::l,i,h=>by
  rw[kh];by_cases e:q.aY=a
  ·rw[List.find?_cons_of_pos (by simpa using e)] at h;cases h
  ·rw[List.find?_cons_of_neg (by simpa using e)] at h;rw[if_neg e];exact Ay h
theorem te(x r:ah):gU x r=decide (r.aY=x.aY):=by
 simp only[gU,ah.aY,Item.mk.injEq]
theorem CJ(r:ah):∀ l:List ah,∃ n,n≤l.length∧dU l r=l.take n++r::l.drop n∧(∀ i (h:i<l.length),i<n→cW l[i] r=true)∧∀ h:n<l.length,cW l[n] r=false
 | []=>⟨0,by simp,by simp[dU],by simp,by simp⟩
 |q::l=>by
  cases h:cW q r
  ·refine ⟨0,by simp,by simp[dU,h],fun i _ hi=>by omega,fun _=>by simpa using h⟩
  ·obtain ⟨n,h1,h2,h3,h4⟩:=CJ r l;refine ⟨n+1,by simpa using h1,?_,fun i hi hn =>?_,fun hn =>?_⟩
   ·simp only[dU,List.takeWhile_cons,List.dropWhile_cons,h,if_true,zz2,List.take_succ_cons,List.drop_succ_cons] at h2 ⊢;rw[h2]
   ·match i with
    |0=>exact h
    |i+1=>exact h3 i (by simpa using hi) (by omega)
   ·exact h4 (by simpa using hn)
theorem Zc{α:Type}[Enc α]{A:ab}(esz:Nat){l:List α}{i:Nat}(h:i≤l.length)(hs:Enc.sz α=esz):gB A esz (some (.int .i64 i)) none none (enc l)=some (enc (l.drop i)):=by
 simp only[gB,gI,hs,if_true,gV,gq,Z2];rw[if_pos ⟨by omega,by omega,by omega,by omega⟩];simp[List.take_of_length_le]
theorem AI{l:List ah}{r:ah}{i:Nat}(b:I):bl (aq [(19,b),(0,enc l),(3,.ptr 3 []),(5,.int .i64 (i:Int))] [(3,.box (enc r))]) (aq [(0,enc l),(3,.ref (enc r)),(5,.int .i64 (i:Int))] []):=by
 refine bl.jJ [3] 3 (x:=.ptr 3 []) (y:=.ref (enc r)) rfl ?_ ?_ ?_ ?_ ?_ ?_
 ·rw[rB];simp[mD,dH,aq,jO,aE,jG,pf]
 ·simp[c7,bA]
 ·simp[bG,fO,bH,I.only,bp]
 ·simp[bJ]
 ·simp[bF,I.only,bp]
 ·simp[bA]
theorem xz(l:List ah)(r:ah)(hl:l.length≤1000):aQ Tryz.prog 97 [enc l,enc r] (enc (dU l r)):=by
 obtain ⟨n,hn,hput,hlow,hat⟩:=CJ r l;rw[hput];clear hput;refine aQ.bO Tryz.func97 IB JP Ld (t8 rfl) (fun hwf W0 bE E1 =>?_);simp only[zk,DQ,bD,Z5];clear hwf;have R:=aw
 repeat' ((first |(with_reducible refine .guard (fun hb =>?_) (fun hb =>?_) <;>try simp only[hb])|refine U.aC (by decide +kernel) rfl fun K hK =>?_|(refine .aA [0,1,3,4,5,19] hK ?_;clear hK K)|(with_reducible refine .done (hK _ ?_);clear hK K)|refine U.of rfl ?_|(with_reducible refine aj.aB (fun h =>?_) (fun h =>?_) <;>try simp only[h])) <;>try simp only[aD,R,simprocAttr])
 all_goals clear R
 refine U.loop (fun i:Nat=>aq [(0,enc l),(3,.ptr 3 []),(5,.int .i64 i)] [(3,.box (enc r))]) (fun i=>i≤n) (fun i=>n-i) 0 (zx7 _) ?_ ?_
 ·refine bl.b6 ?_ ?_ ?_ ?_ <;>simp[bG,bJ,bF,bA,al,bH,cw,I.only,ai.only,bp]
  all_goals rfl
 intro i hi;by_cases hin:i<n
 ·have hlt:i<l.length:=by omega
  have hlc:=eC hlt;have he:=fun A=>ec (A:=A) 8 hlt rfl;have hw:=ew (i:=i) (by omega);have hb:=hlow i hlt hin;rw[xW] at hb;have f108:=tG l[i].aY r.aY;rw[hb] at f108;clear hlow hat hb;generalize l[i]=q at *;have R:=y6 @hlc (y6 @he (y6 @hw aw))
  repeat' ((first |(with_reducible refine .guard (fun hb =>?_) (fun hb =>?_) <;>try simp only[hb])|refine U.aC (by decide +kernel) rfl fun K hK =>?_|refine .flat _ (f108) rfl ?_|(refine .aA [0,1,3,4,5,19] hK ?_;clear hK K)|(with_reducible refine .done (hK _ ?_);clear hK K)|refine U.of rfl ?_|(with_reducible refine aj.aB (fun h =>?_) (fun h =>?_) <;>try simp only[h])) <;>try simp only[aD,R,simprocAttr])
  all_goals clear R
  refine ⟨i+1,by omega,by omega,?_⟩;refine bl.b6 ?_ ?_ ?_ ?_ <;>simp[bG,bJ,bF,bA,al,bH,cw,I.only,ai.only,bp]
  all_goals rfl
 have hie:i=n:=by omega
 subst hie;have hs1:=fun A=>wK (l:=l) (k:=i) A (esz:=8) rfl hn;have hbs:gr 8 (some [enc r])=some (enc [r]):=nM 8 r rfl;have hs2:∀ A,gB A 8 (some (.int .i64 (i:Int))) none none (enc l)=some (enc (l.drop i)):=fun A=>Zc (α:=ah) 8 hn rfl;have tail:U ⟨Tryz.prog,W0,bE,Tryz.f97.ntmps,bY E1,E1,fp,none,none⟩ (.bU zS rL) (cH (fun B=>U ⟨Tryz.prog,W0,bE,Tryz.f97.ntmps,bY E1,E1,fp,none,none⟩ .ret (iX [.tmp 4] (enc (l.take i++r::l.drop i))) B) (iX [.tmp 4] (enc (l.take i++r::l.drop i))))
   (aq [(0,enc l),(3,.ref (enc r)),(5,.int .i64 (i:Int))] []):=by
  refine U.lv (gs:=rL) [] [(0,[]),(3,[]),(5,[]),(23,[]),(24,[]),(27,[]),(30,[]),(31,[])] [0,1,2,3,5,6,8,9,10,4,7,11,12] (by decide +kernel) (dG.of (by simp[jl,bH,vr,I.only,bp])) fun K hK =>?_
  try simp only[jW,rL,Z3,zz6,List.getD_cons_zero,List.getD_cons_succ,zy0,Z8,hs1,hs2,hbs,gC,eA,aw,aX,simprocAttr]
  have hl1:(l.take i).length=i:=by rw[Z9];omega
  refine bM.n5 (bytes:=72) (default:ah) (ys:=l.take i) rfl (VM _ []) rfl (by rw[hl1,zx1];omega) (by rw[hl1,zx1];simp only[maxLen];omega) fun v1 os1 hg1 hk1 =>?_
  try simp only[aX,simprocAttr]
  refine bM.n5 (default:ah) (ys:=[r]) rfl hg1 (by rw[hk1 29 (by decide)];rfl) (by rw[zz3,hl1,List.length_singleton];omega) (by rw[zz3,hl1,List.length_singleton];simp only[maxLen];omega) fun v2 os2 hg2 hk2 =>?_
  try simp only[aX,simprocAttr]
  refine bM.n5 (default:ah) (ys:=l.drop i) rfl hg2 (by rw[hk2 33 (by decide),hk1 33 (by decide)];rfl) (by rw[zz3,Z1,hl1,List.length_singleton,List.length_drop];omega) (by rw[zz3,Z1,hl1,List.length_singleton,List.length_drop];simp only[maxLen];omega) fun v3 os3 hg3 hk3 =>?_
  try simp only[aX,simprocAttr]
  have hf:∀ ts,bd true (aq ts os3) v3=some (enc (l.take i++r::l.drop i)):=fun ts=>by
   have:=Bd (A:=aq ts os3) rfl hg3 fun m _=>rfl;rw[this];simp
  refine .done (hK _ ?_);clear hK K;refine U.ret ?_;simp only[aX,simprocAttr]
  try simp only[hf,aX,simprocAttr]
 by_cases hlt:i<l.length
 ·have hlc:=eC hlt;have he:=fun A=>ec (A:=A) 8 hlt rfl;have hb:=hat hlt;rw[xW] at hb;have f108:=tG l[i].aY r.aY;rw[hb] at f108;clear hlow hat hb;generalize l[i]=q at *;have R:=y6 @hlc (y6 @he (y6 @hs1 (y6 @hs2 (y6 @hbs aw))))
  repeat' ((first |(with_reducible refine .guard (fun hb =>?_) (fun hb =>?_) <;>try simp only[hb])|refine U.aC (by decide +kernel) rfl fun K hK =>?_|refine .flat _ (f108) rfl ?_|(refine .aA [0,1,3,4,5,19] hK ?_;clear hK K)|(with_reducible refine .done (hK _ ?_);clear hK K)|refine U.of rfl ?_|(with_reducible refine aj.aB (fun h =>?_) (fun h =>?_) <;>try simp only[h])) <;>try simp only[aD,R,simprocAttr])
  all_goals clear R
  refine U.sub ?_ tail;exact AI _
 ·have hlc:=eV hlt;have R:=y6 @hlc aw
  repeat' ((first |(with_reducible refine .guard (fun hb =>?_) (fun hb =>?_) <;>try simp only[hb])|refine U.aC (by decide +kernel) rfl fun K hK =>?_|(refine .aA [0,1,3,4,5,19] hK ?_;clear hK K)|(with_reducible refine .done (hK _ ?_);clear hK K)|refine U.of rfl ?_|(with_reducible refine aj.aB (fun h =>?_) (fun h =>?_) <;>try simp only[h])) <;>try simp only[aD,R,simprocAttr])
  all_goals clear R
  refine U.sub ?_ tail;exact AI _
theorem Zg(l:List ah)(r:ah):da (l++[r])=dU (da l) r:=by simp[da]
theorem CI(l:List ah)(r:ah):(dU l r).length=l.length+1:=by
 have:=(vX l r).length_eq;simpa using this
theorem EP:∀ (l:List ah),(da l).length=l.length:=by
 have:∀ (l out:List ah),(l.foldl dU out).length=out.length+l.length:=by
  intro l
  induction l with
  |nil=>simp
  |cons r l ih=>intro out;rw[List.foldl_cons,ih,CI,zx0];omega
 intro l;rw[da,this];simp
theorem Ga(l:List ah)(hl:l.length≤900):aQ Tryz.prog 99 [enc l] (enc (da l)):=by
 refine aQ.bO Tryz.func99 ID JR Lf (t8 rfl) (fun hwf W0 bE E1 =>?_);simp only[zm,DS,bD];clear hwf;have R:=aw
 repeat' ((first |refine U.aC (by decide +kernel) rfl fun K hK =>?_|(refine .aA [0,2,3,4,8] hK ?_;clear hK K)|(with_reducible refine .done (hK _ ?_);clear hK K)|refine U.of rfl ?_|(with_reducible refine aj.aB (fun h =>?_) (fun h =>?_) <;>try simp only[h])) <;>try simp only[aD,R,simprocAttr])
 all_goals clear R
 refine U.loop (fun i:Nat=>aq [(0,enc l),(3,enc (da (l.take i))),(4,.int .i64 i)] []) (fun i=>i≤l.length) (fun i=>l.length-i) 0 (zx7 _) ?_ ?_
 ·refine bl.jJ [] 3 (x:=.nils 8) (y:=enc ([]:List ah)) rfl (by rfl) ?_ ?_ ?_ ?_ ?_ <;>simp[c7,bA,bG,bJ,bF,fO,bH,I.only,bp,da]
 intro i hi;by_cases hlt:i<l.length
 ·have hlc:=eC hlt;have he:=fun A=>ec (A:=A) 8 hlt rfl;have hw:=ew (i:=i) (by omega);have hs:=Zg (l.take i) l[i];rw[←gX hlt] at hs;have hsl:=EP (l.take i);rw[Z9] at hsl;have f97:=xz (da (l.take i)) l[i] (by omega);generalize l[i]=r at *;generalize da (l.take i)=s at *;have R:=y6 @hlc (y6 @he (y6 @hw aw))
  repeat' ((first |refine U.aC (by decide +kernel) rfl fun K hK =>?_|refine .lead _ (f97) ?_|(refine .aA [0,2,3,4,8] hK ?_;clear hK K)|(with_reducible refine .done (hK _ ?_);clear hK K)|refine U.of rfl ?_|(with_reducible refine aj.aB (fun h =>?_) (fun h =>?_) <;>try simp only[h])) <;>try simp only[aD,R,simprocAttr])
  all_goals clear R
  refine ⟨i+1,by omega,by omega,?_⟩;rw[hs];refine bl.b6 ?_ ?_ ?_ ?_ <;>simp[bG,bJ,bF,bA,bH,I.only,bp]
  all_goals rfl
 ·have hlc:=eV hlt;have hge:i=l.length:=by omega
  subst hge;rw[List.take_length];have R:=y6 @hlc aw
  repeat' ((first |refine U.aC (by decide +kernel) rfl fun K hK =>?_|(refine .aA [0,2,3,4,8] hK ?_;clear hK K)|(with_reducible refine .done (hK _ ?_);clear hK K)|refine U.of rfl ?_|(with_reducible refine aj.aB (fun h =>?_) (fun h =>?_) <;>try simp only[h])) <;>try simp only[aD,R,simprocAttr])
  all_goals clear R
  all_goals rfl
def ud(l:List ah):Bool:=decide (l.length≤60)&&eY (fun out r=>bm r&&kK out r) [] l
theorem Hh(l:List ah):fy l=ud l:=by
 rw[fy,ud,Bool.and_comm]
 congr 1
 rw[Bool.eq_iff_iff,qS,qS];constructor
 ·rintro ⟨h1,h2⟩;exact ⟨h1,by rw[←x9 fun r hr=>vK (h1 r hr)];exact h2⟩
 ·rintro ⟨h1,h2⟩;exact ⟨h1,by rw[x9 fun r hr=>vK (h1 r hr)];exact h2⟩
theorem Zu{l:List ah}{i:Nat}(h:i<l.length):kK (l.take i) l[i]=((if h0:0<i then eh (l[i-1]'(by omega)).aY l[i].aY else true)&&((dS (l.take i) l[i].aM:Int)==l[i].no)):=by
 have e:∀ (a b:Int),decide (a=b)=(a==b):=fun a b=>by rw[Bool.eq_iff_iff];simp
 rw[kK,e]
 congr 1
 by_cases h0:0<i
 ·have:=gX (l:=l) (i:=i-1) (by omega);rw[show i-1+1=i by omega] at this;rw[this,List.getLast?_concat,dif_pos h0];rfl
 ·have:i=0:=by omega
  subst this;simp
theorem xw(l:List ah)(hl:l.length≤900)(hp:l.Pairwise (fun x y=>¬ (x.aM=y.aM∧x.no=y.no))):aQ Tryz.prog 95 [enc l] (enc (⟨da l⟩:cN)):=by
 by_cases hn0:l=[]
 ·subst hn0;exact xy
 refine aQ.bO Tryz.func95 zw zD zO (t8 rfl) (fun hwf W0 bE E1 =>?_);simp only[uh,v7,bD];clear hwf;have hsl:(da l).length=l.length:=(qv hp).1.length_eq;have R:=y6 @dp aw
 repeat' ((first |refine U.aC (by decide +kernel) rfl fun K hK =>?_|(refine .aA [0,2,3] hK ?_;clear hK K)|(with_reducible refine .done (hK _ ?_);clear hK K)|refine U.of rfl ?_|(with_reducible refine aj.aB (fun h =>?_) (fun h =>?_) <;>try simp only[h])) <;>try simp only[aD,R,simprocAttr])
 all_goals clear R
 refine .bB false [(7,64)] [] [enc l] (mA l) rfl (qI l (by omega)) eP.nil ⟨.inl ⟨(gJ _ _).symm,bp _ _,e9 _⟩,trivial⟩ ?_ ?_
 ·rintro x os' (⟨h,_⟩ | ⟨_,k,rfl,rfl⟩)
  ·exact absurd h hn0
  ·exact df.pZ (fun p=>fo p _) (fun h=>by cases h) rfl (fun h=>by cases h) rfl (by decide)
 rintro x os' (⟨h,_⟩ | ⟨hn,k,rfl,rfl⟩)
 ·exact absurd h hn0
 try simp only[eR,kD,jv,zz2,zz3,aX,simprocAttr]
 refine .done (hK _ ?_);clear hK K;refine .dE (by decide +kernel) fun K hK =>?_;simp only[A6,aX,simprocAttr];refine .bB false [(1000000,64)] (kE 1000000 (l++List.replicate k ct)) [.view 1000000 [] 8 0 l.length,.func 142 []] (EO l (List.replicate k ct)) rfl (FI l _ hn0 (by omega) hp) ⟨?_,?_⟩ ⟨.inl ⟨?_,?_,rfl⟩,.inl ⟨rfl,rfl,rfl⟩,trivial⟩ ?_ ?_
 ·intro n x h;simp only[kE,aE] at h;split at h
  ·rename_i hn';subst hn';simp only[v6] at h;subst h;exact ⟨by simp only[kD,jv,aX,simprocAttr],fo _ _,rfl⟩
  ·cases h
 ·intro a b ha hb _;rw[Go.Abs.fP.1 ha,Go.Abs.fP.1 hb]
 ·try simp only[kD,simprocAttr]
 ·exact Go.Abs.fP.2 rfl
 ·rintro x os' ⟨rfl,rfl⟩;exact df.Cp (fun p=>fo p _) (fun h=>by cases h) rfl (fun h=>by cases h)
 rintro x os' ⟨rfl,rfl⟩
 try simp only[kE,kD,jv,zz2,zz3,aX,simprocAttr]
 refine .done (hK _ ?_);clear hK K;have hf:jk 8 0 l.length (some ((da l++List.replicate k ct).map enc))=some (enc (da l)):=by
  rw[mE (α:=ah) (sz:=8) rfl,←hsl,tq]
 have R:=y6 @hf (y6 @dp aw)
 repeat' ((first |refine U.aC (by decide +kernel) rfl fun K hK =>?_|(refine .aA [0,2,3] hK ?_;clear hK K)|(with_reducible refine .done (hK _ ?_);clear hK K)|refine U.of rfl ?_|(with_reducible refine aj.aB (fun h =>?_) (fun h =>?_) <;>try simp only[h])) <;>try simp only[aD,R,simprocAttr])
 all_goals clear R
 all_goals rfl
theorem xn(l:List ah)(hl:l.length≤4000000000000):aQ Tryz.prog 53 [enc (⟨l⟩:cN)] (enc (ur l)):=by
 refine aQ.bO Tryz.func53 Ib Jt KQ (t8 rfl) (fun hwf W0 bE E1 =>?_);simp only[c53,Ds,bD];clear hwf;rw[ur,Hh,ud];cases q0:decide ((l.length:Int)>60)
 rotate_left
 ·have:decide (l.length≤60)=false:=decide_eq_false (by have:=of_decide_eq_true q0;omega);rw[this];have R:=y6 @q0 aw
  repeat' ((first |(with_reducible refine .guard (fun hb =>?_) (fun hb =>?_) <;>try simp only[hb])|refine U.aC (by decide +kernel) rfl fun K hK =>?_|(refine .aA [0,1,2,3,4,8,13,56] hK ?_;clear hK K)|(with_reducible refine .done (hK _ ?_);clear hK K)|refine U.of rfl ?_|(with_reducible refine aj.aB (fun h =>?_) (fun h =>?_) <;>try simp only[h])) <;>try simp only[aD,R,simprocAttr])
  all_goals clear R
  all_goals rfl
 have h60:l.length≤60:=by have:=of_decide_eq_false q0;omega
 rw[decide_eq_true h60,Bool.true_and];have R:=y6 @q0 aw
 repeat' ((first |(with_reducible refine .guard (fun hb =>?_) (fun hb =>?_) <;>try simp only[hb])|refine U.aC (by decide +kernel) rfl fun K hK =>?_|(refine .aA [0,1,2,3,4,8,13,56] hK ?_;clear hK K)|(with_reducible refine .done (hK _ ?_);clear hK K)|refine U.of rfl ?_|(with_reducible refine aj.aB (fun h =>?_) (fun h =>?_) <;>try simp only[h])) <;>try simp only[aD,R,simprocAttr])
 all_goals clear R
 refine U.loop (fun i:Nat=>aq [(1,.ptr 1 []),(3,.int .i64 i)] [(1,.box (enc (⟨l⟩:cN)))]) (fun i=>i≤l.length∧(∀ r∈l.take i,bm r=true)∧eY (fun out r=>bm r&&kK out r) [] l=eY (fun out r=>bm r&&kK out r) (l.take i) (l.drop i)) (fun i=>l.length-i) 0 ⟨zx7 _,by simp,rfl⟩ ?_ ?_
 ·refine bl.b6 ?_ ?_ ?_ ?_ <;>simp[bG,bJ,bF,bA,al,bH,cw,I.only,ai.only,bp]
  all_goals rfl
 rintro i ⟨hi,hk,heq⟩;rw[heq];by_cases hlt:i<l.length
 ·have hlc:=eC hlt;have he:=fun A=>ec (A:=A) 8 hlt rfl;have hw:=ew (i:=i) (by omega);have hnx:=sG hlt hk;have hst:=Zu hlt;have hsl:=fun A=>EI (A:=A) (l:=l) (i:=i) (by omega);have hfv:=fun aI A=>EJ (i:=i) l aI A;have hli:(l.take i).length=i:=by rw[Z9];omega
  rw[xJ hlt] at heq ⊢;rw[hst] at heq ⊢;have hbf:∀ h:0<i,True:=fun _=>trivial;have f34:=xm l[i];have f102:=xa (l.take i) (by omega) (fun q hq=>kq (hk q hq));cases q1:bm l[i]
  ·rw[show iP l[i]=80 by simp[iP,q1]] at f34;clear heq hst hnx;generalize l[i]=r at *;have R:=y6 @hlc (y6 @he (y6 @hw (y6 @eA (y6 @ee aw))))
   repeat' ((first |(with_reducible refine .guard (fun hb =>?_) (fun hb =>?_) <;>try simp only[hb])|refine U.aC (by decide +kernel) rfl fun K hK =>?_|refine .flat _ (f34) rfl ?_|(refine .aA [0,1,2,3,4,8,13,56] hK ?_;clear hK K)|(with_reducible refine .done (hK _ ?_);clear hK K)|refine U.of rfl ?_|(with_reducible refine aj.aB (fun h =>?_) (fun h =>?_) <;>try simp only[h])) <;>try simp only[aD,R,simprocAttr])
   all_goals clear R
   all_goals rfl
  rw[show iP l[i]=0 by simp[iP,q1]] at f34;have hix:=r2 (l.take i) (kq q1);rw[q1] at heq;by_cases hz:0<i
  ·have hgt:decide ((i:Int)>0)=true:=decide_eq_true (by omega);have hpe:=fun A=>ec (A:=A) (l:=l) (k:=i-1) 8 (by omega) rfl;have hw1:IntKind.i64.wrap ((i:Int)-1)=((i-1:Nat):Int):=by rw[dV _ (by omega) (by omega)];omega
   simp only[dif_pos hz] at heq ⊢;have f108:=tG (l[i-1]'(by omega)).aY l[i].aY;clear hst;generalize (l[i-1]'(by omega))=q at *;generalize l[i]=r at *;cases c1:eh q.aY r.aY
   ·rw[c1] at f108 heq;have R:=y6 @hlc (y6 @he (y6 @hw (y6 @hgt (y6 @hpe (y6 @hw1 (y6 @hsl (y6 @hfv (y6 @hix (y6 @eA (y6 @ee (y6 @im aw)))))))))))
    repeat' ((first |(with_reducible refine .guard (fun hb =>?_) (fun hb =>?_) <;>try simp only[hb])|refine U.aC (by decide +kernel) rfl fun K hK =>?_|refine .flat _ (f34) rfl ?_|refine .flat _ (f108) rfl ?_|refine .lead _ (f102) ?_|(refine .aA [0,1,2,3,4,8,13,56] hK ?_;clear hK K)|(with_reducible refine .done (hK _ ?_);clear hK K)|refine U.of rfl ?_|(with_reducible refine aj.aB (fun h =>?_) (fun h =>?_) <;>try simp only[h])) <;>try simp only[aD,R,simprocAttr])
    all_goals clear R
    all_goals rfl
   rw[c1] at f108 heq;cases c2:((dS (l.take i) r.aM:Int)==r.no)
   ·have c2':((dS (l.take i) r.aM:Int) != r.no)=true:=by simp[bne,c2]
    rw[c2] at heq;have R:=y6 @hlc (y6 @he (y6 @hw (y6 @hgt (y6 @hpe (y6 @hw1 (y6 @hsl (y6 @hfv (y6 @hix (y6 @c2' (y6 @eA (y6 @ee (y6 @im aw))))))))))))
    repeat' ((first |(with_reducible refine .guard (fun hb =>?_) (fun hb =>?_) <;>try simp only[hb])|refine U.aC (by decide +kernel) rfl fun K hK =>?_|refine .flat _ (f34) rfl ?_|refine .flat _ (f108) rfl ?_|refine .lead _ (f102) ?_|(refine .aA [0,1,2,3,4,8,13,56] hK ?_;clear hK K)|(with_reducible refine .done (hK _ ?_);clear hK K)|refine U.of rfl ?_|(with_reducible refine aj.aB (fun h =>?_) (fun h =>?_) <;>try simp only[h])) <;>try simp only[aD,R,zy0,simprocAttr])
    all_goals clear R
    all_goals rfl
   ·have c2':((dS (l.take i) r.aM:Int) != r.no)=false:=by simp[bne,c2]
    rw[c2] at heq;have R:=y6 @hlc (y6 @he (y6 @hw (y6 @hgt (y6 @hpe (y6 @hw1 (y6 @hsl (y6 @hfv (y6 @hix (y6 @c2' (y6 @eA (y6 @ee (y6 @im aw))))))))))))
    repeat' ((first |(with_reducible refine .guard (fun hb =>?_) (fun hb =>?_) <;>try simp only[hb])|refine U.aC (by decide +kernel) rfl fun K hK =>?_|refine .flat _ (f34) rfl ?_|refine .flat _ (f108) rfl ?_|refine .lead _ (f102) ?_|(refine .aA [0,1,2,3,4,8,13,56] hK ?_;clear hK K)|(with_reducible refine .done (hK _ ?_);clear hK K)|refine U.of rfl ?_|(with_reducible refine aj.aB (fun h =>?_) (fun h =>?_) <;>try simp only[h])) <;>try simp only[aD,R,zy0,simprocAttr])
    all_goals clear R
    refine ⟨i+1,⟨by omega,hnx q1,by rfl⟩,by omega,?_⟩;clear heq hnx;refine bl.b6 ?_ ?_ ?_ ?_ <;>simp[bG,bJ,bF,bA,al,bH,cw,I.only,ai.only,bp]
    all_goals rfl
  ·have hgt:decide ((i:Int)>0)=false:=decide_eq_false (by omega);simp only[dif_neg hz] at heq ⊢;clear hst;generalize l[i]=r at *;cases c2:((dS (l.take i) r.aM:Int)==r.no)
   ·have c2':((dS (l.take i) r.aM:Int) != r.no)=true:=by simp[bne,c2]
    rw[c2] at heq;have R:=y6 @hlc (y6 @he (y6 @hw (y6 @hgt (y6 @hsl (y6 @hfv (y6 @hix (y6 @c2' (y6 @eA (y6 @ee (y6 @im aw))))))))))
    repeat' ((first |(with_reducible refine .guard (fun hb =>?_) (fun hb =>?_) <;>try simp only[hb])|refine U.aC (by decide +kernel) rfl fun K hK =>?_|refine .flat _ (f34) rfl ?_|refine .lead _ (f102) ?_|(refine .aA [0,1,2,3,4,8,13,56] hK ?_;clear hK K)|(with_reducible refine .done (hK _ ?_);clear hK K)|refine U.of rfl ?_|(with_reducible refine aj.aB (fun h =>?_) (fun h =>?_) <;>try simp only[h])) <;>try simp only[aD,R,zy0,simprocAttr])
    all_goals clear R
    all_goals rfl
   ·have c2':((dS (l.take i) r.aM:Int) != r.no)=false:=by simp[bne,c2]
    rw[c2] at heq;have R:=y6 @hlc (y6 @he (y6 @hw (y6 @hgt (y6 @hsl (y6 @hfv (y6 @hix (y6 @c2' (y6 @eA (y6 @ee (y6 @im aw))))))))))
    repeat' ((first |(with_reducible refine .guard (fun hb =>?_) (fun hb =>?_) <;>try simp only[hb])|refine U.aC (by decide +kernel) rfl fun K hK =>?_|refine .flat _ (f34) rfl ?_|refine .lead _ (f102) ?_|(refine .aA [0,1,2,3,4,8,13,56] hK ?_;clear hK K)|(with_reducible refine .done (hK _ ?_);clear hK K)|refine U.of rfl ?_|(with_reducible refine aj.aB (fun h =>?_) (fun h =>?_) <;>try simp only[h])) <;>try simp only[aD,R,zy0,simprocAttr])
    all_goals clear R
    refine ⟨i+1,⟨by omega,hnx q1,by rfl⟩,by omega,?_⟩;clear heq hnx;refine bl.b6 ?_ ?_ ?_ ?_ <;>simp[bG,bJ,bF,bA,al,bH,cw,I.only,ai.only,bp]
    all_goals rfl
 ·have hlc:=eV hlt;rw[zx9 (by omega),eY];have R:=y6 @hlc aw
  repeat' ((first |(with_reducible refine .guard (fun hb =>?_) (fun hb =>?_) <;>try simp only[hb])|refine U.aC (by decide +kernel) rfl fun K hK =>?_|(refine .aA [0,1,2,3,4,8,13,56] hK ?_;clear hK K)|(with_reducible refine .done (hK _ ?_);clear hK K)|refine U.of rfl ?_|(with_reducible refine aj.aB (fun h =>?_) (fun h =>?_) <;>try simp only[h])) <;>try simp only[aD,R,simprocAttr])
  all_goals clear R
  all_goals rfl
theorem MS{l:List ah}(hs:mr l){a:Item}{r:ah}(h:l.find? (fun r=>decide (r.aY=a))=some r):hE l a=true∧l.getD (eE l a) default=r:=by
 have hm:=List.mem_of_find?_eq_some h;have ha:r.aY=a:=by have:=List.find?_some h;simpa using this
 have hh:hE l a=true:=by simp only[hE,List.any_eq_true,decide_eq_true_eq];exact ⟨r,hm,ha⟩
 obtain ⟨h1,h2⟩:=(rT hs a).1 hh;refine ⟨hh,?_⟩;simp only[zz5,zz0 h1,Option.getD_some];have h3:(l[eE l a]).aY=r.aY:=h2.trans ha.symm;have e:(l[eE l a]).aM=r.aM∧(l[eE l a]).no=r.no:=by
  simp only[ah.aY,Item.mk.injEq] at h3;exact h3
 exact Cw (tk hs) (List.getElem_mem h1) hm e
theorem MR{l:List ah}{a:Item}(h:l.find? (fun r=>decide (r.aY=a))=none):hE l a=false:=by
 rw[hE,List.any_eq_false];intro r hr;have:=List.find?_eq_none.1 h r hr;simpa using this
theorem Fk{l:List ah}(h:eX [] l=true):l.Pairwise (fun x y=>¬ (x.aM=y.aM∧x.no=y.no)):=by
 have:=gG.inj ml.nil ((tz l []).1 h) List.Pairwise.nil;simpa using this
def lH(l:List ah):List ah×Int:=if eX [] l=true then (da l,0) else ([],81)
theorem Zi(l:List ah):(lH l).1.length≤60:=by
 rw[lH];split
 ·rename_i q;simp only;rw[(qv (Fk q)).1.length_eq];exact qE q
 ·simp
theorem FX(l:List ah)(hl:l.length≤4000000000000):aQ Tryz.prog 41 [enc l] (.tuple [enc (⟨(lH l).1⟩:cN),enc (lH l).2]):=by
 refine aQ.bO Tryz.func41 H8 Jq KN (t8 rfl) (fun hwf W0 bE E1 =>?_);simp only[yU,Dp,bD];clear hwf;have f:=xA l hl;rw[lH];cases q:eX [] l
 ·rw[q] at f;have R:=y6 @dp aw
  repeat' ((first |refine U.aC (by decide +kernel) rfl fun K hK =>?_|refine .flat _ (f) rfl ?_|(refine .aA [0,2,3,6] hK ?_;clear hK K)|(with_reducible refine .done (hK _ ?_);clear hK K)|refine U.of rfl ?_|(with_reducible refine aj.aB (fun h =>?_) (fun h =>?_) <;>try simp only[h])) <;>try simp only[aD,R,simprocAttr])
  all_goals clear R
  all_goals rfl
 ·rw[q] at f;have f95:=xw l (by have:=qE q;omega) (Fk q);simp only[if_true];generalize da l=s at *;have R:=y6 @dp (y6 @gm aw)
  repeat' ((first |refine U.aC (by decide +kernel) rfl fun K hK =>?_|refine .flat _ (f) rfl ?_|refine .lead _ (f95) ?_|(refine .aA [0,2,3,6] hK ?_;clear hK K)|(with_reducible refine .done (hK _ ?_);clear hK K)|refine U.of rfl ?_|(with_reducible refine aj.aB (fun h =>?_) (fun h =>?_) <;>try simp only[h])) <;>try simp only[aD,R,simprocAttr])
  all_goals clear R
  all_goals rfl
theorem FY(l:List ah)(hl:l.length≤4000000000000):aQ Tryz.prog 42 [enc l] (.tuple [enc (⟨(lH l).1⟩:cN),enc (lH l).2]):=by
 refine aQ.bO Tryz.func42 H9 Jr KO (t8 rfl) (fun hwf W0 bE E1 =>?_);simp only[yV,Dq,bD];clear hwf;have f:=F8 l hl;rw[lH];cases q:eX [] l
 ·rw[q] at f;have R:=y6 @dp aw
  repeat' ((first |refine U.aC (by decide +kernel) rfl fun K hK =>?_|refine .flat _ (f) rfl ?_|(refine .aA [0,2,3,6] hK ?_;clear hK K)|(with_reducible refine .done (hK _ ?_);clear hK K)|refine U.of rfl ?_|(with_reducible refine aj.aB (fun h =>?_) (fun h =>?_) <;>try simp only[h])) <;>try simp only[aD,R,simprocAttr])
  all_goals clear R
  all_goals rfl
 ·rw[q] at f;have f99:=Ga l (by have:=qE q;omega);simp only[if_true];generalize da l=s at *;have R:=y6 @dp aw
  repeat' ((first |refine U.aC (by decide +kernel) rfl fun K hK =>?_|refine .flat _ (f) rfl ?_|refine .lead _ (f99) ?_|(refine .aA [0,2,3,6] hK ?_;clear hK K)|(with_reducible refine .done (hK _ ?_);clear hK K)|refine U.of rfl ?_|(with_reducible refine aj.aB (fun h =>?_) (fun h =>?_) <;>try simp only[h])) <;>try simp only[aD,R,simprocAttr])
  all_goals clear R
  all_goals rfl
def fb(a b:List ah):List ah×Int :=
 if (fy a&&fy b)=false then ([],81) else if iQ a b=true then ([],82) else if 60<(a++dx a b).length then ([],2) else (da (a++dx a b),0)
theorem V7(a b:List ah):(fb a b).1.length≤60:=by
 rw[fb];split
 ·simp
 ·split
  ·simp
  ·split
   ·simp
   ·rw[EP];omega
theorem By{a:List ah}(hs:mr a){x r:ah}(h:a.find? (fun r=>decide (r.aY=x.aY))=some r):a.any (gU x)=true∧(a.any fun q=>gU x q&&decide (q≠x))=decide (r≠x):=by
 have hm:=List.mem_of_find?_eq_some h;have ha:r.aY=x.aY:=by have:=List.find?_some h;simpa using this
 refine ⟨List.any_eq_true.2 ⟨r,hm,by rw[te,ha];simp⟩,?_⟩;rw[Bool.eq_iff_iff,List.any_eq_true,decide_eq_true_eq];constructor
 ·rintro ⟨q,hq,k⟩ rfl;simp only[Z0,te,decide_eq_true_eq] at k;have h1:=k.1;simp only[ah.aY,Item.mk.injEq] at h1;exact k.2 (Cw (tk hs) hq hm h1)
 ·intro k;exact ⟨r,hm,by simp only[Z0,te,decide_eq_true_eq];exact ⟨ha,k⟩⟩
theorem Bx{a:List ah}{x:ah}(h:a.find? (fun r=>decide (r.aY=x.aY))=none):a.any (gU x)=false∧(a.any fun q=>gU x q&&decide (q≠x))=false:=by
 have hn:∀ r∈a,gU x r=false:=fun r hr=>by
  have:=List.find?_eq_none.1 h r hr;rw[te];simpa using this
 refine ⟨List.any_eq_false.2 fun r hr=>by rw[hn r hr];decide,List.any_eq_false.2 fun r hr=>by rw[hn r hr];simp⟩
theorem zX{a b:List ah}{i:Nat}(h:i<b.length):iQ a (b.take (i+1))=(iQ a (b.take i)||a.any fun q=>gU b[i] q&&decide (q≠b[i])):=by
 rw[gX h,iQ,iQ,List.any_append];simp
theorem zY{a b:List ah}{i:Nat}(h:i<b.length)(k:(a.any fun q=>gU b[i] q&&decide (q≠b[i]))=true):iQ a b=true :=
 List.any_eq_true.2 ⟨b[i],List.getElem_mem h,k⟩
theorem BB{a b:List ah}{i:Nat}(h:i<b.length):dx a (b.take (i+1))=dx a (b.take i)++if a.any (gU b[i])=true then [] else [b[i]]:=by
 rw[gX h,dx,dx,List.filter_append];cases q:a.any (gU b[i]) <;>simp[q]
theorem BC(a b:List ah)(i:Nat):(dx a (b.take i)).length≤i:=by
 have:=List.length_filter_le (fun r => !a.any (gU r)) (b.take i);rw[dx];rw[Z9] at this;omega
theorem AH(l:List ah):∀ out:List ah,(l.foldl dU out).length=out.length+l.length:=by
 induction l with
 |nil=>simp
 |cons r l ih=>intro out;rw[List.foldl_cons,ih,CI,zx0];omega
theorem V6{a b:List ah}(q1:fy a=true)(q2:fy b=true)(hd:iQ a b=false) :
  fb a b=if 60<((dx a b).foldl dU a).length then ([],2) else ((dx a b).foldl dU a,0):=by
 have h1:=(mw q1).j4;have h2:=(mw q2).j4;obtain ⟨p,hs⟩:=qv (vi h1 h2);rw[fb,q1,q2,hd,AH,Z1,←V9 h1 h2 p hs];rfl
theorem Bw{a b:List ah}(q1:fy a=true)(q2:fy b=true)(hd:iQ a b=true):fb a b=([],82):=by
 rw[fb,q1,q2,hd];rfl
theorem FW(a b:List ah)(ha:a.length≤4000000000000)(hb:b.length≤4000000000000):aQ Tryz.prog 40 [enc (⟨a⟩:cN),enc (⟨b⟩:cN)] (.tuple [enc (⟨(fb a b).1⟩:cN),enc (fb a b).2]):=by
 refine aQ.bO Tryz.func40 H7 Jp KM (t8 rfl) (fun hwf W0 bE E1 =>?_);simp only[yT,Dn,bD,Z5];clear hwf;have f1:=xn a ha;have f2:=xn b hb;have h81:((81:Int) != 0)=true:=rfl;have h00:((0:Int) != 0)=false:=rfl;rw[ur] at f1 f2;cases q1:fy a
 ·rw[q1] at f1;have e:fb a b=([],81):=by rw[fb,q1];rfl
  rw[e];simp only[Z4,if_false] at f1;have R:=y6 @h81 (y6 @dp (y6 @gm aw))
  repeat' ((first |(with_reducible refine .guard (fun hb =>?_) (fun hb =>?_) <;>try simp only[hb])|refine U.aC (by decide +kernel) rfl fun K hK =>?_|refine .flat _ (f1) rfl ?_|(refine .aA [0,1,2,3,4,5,6,7,8,16,26,52,55,65] hK ?_;clear hK K)|(with_reducible refine .done (hK _ ?_);clear hK K)|refine U.of rfl ?_|(with_reducible refine aj.aB (fun h =>?_) (fun h =>?_) <;>try simp only[h])) <;>try simp only[aD,R,simprocAttr])
  all_goals clear R
  all_goals rfl
 cases q2:fy b
 ·rw[q1] at f1;rw[q2] at f2;have e:fb a b=([],81):=by rw[fb,q1,q2];rfl
  rw[e];simp only[Z4,if_false,if_true] at f1 f2;have R:=y6 @h81 (y6 @h00 (y6 @dp (y6 @gm aw)))
  repeat' ((first |(with_reducible refine .guard (fun hb =>?_) (fun hb =>?_) <;>try simp only[hb])|refine U.aC (by decide +kernel) rfl fun K hK =>?_|refine .flat _ (f1) rfl ?_|refine .flat _ (f2) rfl ?_|(refine .aA [0,1,2,3,4,5,6,7,8,16,26,52,55,65] hK ?_;clear hK K)|(with_reducible refine .done (hK _ ?_);clear hK K)|refine U.of rfl ?_|(with_reducible refine aj.aB (fun h =>?_) (fun h =>?_) <;>try simp only[h])) <;>try simp only[aD,R,simprocAttr])
  all_goals clear R
  all_goals rfl
 have b1:=mw q1;have b2:=mw q2;rw[q1,if_pos rfl] at f1;rw[q2,if_pos rfl] at f2;have hla:a.length≤60:=b1.len;have hlb:b.length≤60:=b2.len;obtain ⟨J,hJ⟩:∃ J,J=fb a b:=⟨_,rfl⟩
 rw[←hJ];refine .dE (by decide +kernel) fun K hK =>?_;simp only[AX,aX,simprocAttr];refine .done (hK _ ?_);clear hK K;refine U.seq (U.w7 (aq [(2,.ptr 2 []),(3,.ptr 3 []),(4,.ptr 4 [])] [(2,.box (enc (⟨a⟩:cN))),(3,.box (enc (⟨b⟩:cN))),(4,.box (.agg [.nils 8]))]) ?_ fun B hB=>U.sub hB ?_)
 ·have R:=y6 @h00 (y6 @dp (y6 @gm aw))
  repeat' ((first |(with_reducible refine .guard (fun hb =>?_) (fun hb =>?_) <;>try simp only[hb])|refine U.aC (by decide +kernel) rfl fun K hK =>?_|refine .flat _ (f1) rfl ?_|refine .flat _ (f2) rfl ?_|(refine .aA [0,1,2,3,4,5,6,7,8,16,26,52,55,65] hK ?_;clear hK K)|(with_reducible refine .done (hK _ ?_);clear hK K)|refine U.of rfl ?_|(with_reducible refine aj.aB (fun h =>?_) (fun h =>?_) <;>try simp only[h])) <;>try simp only[aD,R,simprocAttr])
  all_goals clear R
  refine bl.b6 ?_ ?_ ?_ ?_ <;>simp[bG,bJ,bF,bA,al,bH,cw,I.only,I.bR,ai.only,bp]
 refine U.seq (U.w7 (aq [(2,.ptr 2 []),(3,.ptr 3 []),(4,.ptr 4 []),(6,enc a)] [(2,.box (enc (⟨a⟩:cN))),(3,.box (enc (⟨b⟩:cN))),(4,.box (.agg [.nils 8]))]) ?_ fun B hB=>U.sub hB ?_)
 ·refine .gS (by decide +kernel) fun K hK =>?_;simp only[AY,aX,simprocAttr]
  try simp only[gC,aw,aX,simprocAttr]
  by_cases hne:a=[]
  ·subst hne;rw[xL (α:=ah) (esz:=8) _ rfl]
   try simp only[aX,simprocAttr]
   refine .done (hK _ ?_);clear hK K;try simp only[cH]
   refine bl.jJ [] 6 (x:=.c0 8) (y:=enc ([]:List ah)) rfl (by rfl) ?_ ?_ ?_ ?_ ?_ <;>simp[c7,bA,ai.only,bG,bJ,bF,fO,bH,aE,al,I.only,I.bR,bp]
  ·try simp only[kd,simprocAttr]
   refine aZ.qX (esz:=8) ct (l:=a) rfl hne rfl (by omega) (by simp only[maxLen];omega) fun q =>?_
   try simp only[aX,simprocAttr]
   refine .done (hK _ ?_);clear hK K;try simp only[cH]
   refine bl.jJ [21] 6 (x:=.view 21 [] 8 0 a.length) (y:=enc a) rfl ?_ ?_ ?_ ?_ ?_ ?_
   ·have:jk 8 0 a.length (some ((a++List.replicate q ct).map enc))=some (enc a):=by
     rw[mE (α:=ah) (sz:=8) rfl,tq]
    exact this
   ·simp[c7,bA,ai.only,I.only,I.bR,bp]
   ·simp[bG,fO,bH,I.only,bp]
   ·simp[bJ,c7,aE]
   ·simp[bF,al,aE,I.only,bp]
   ·simp[bA,ai.only,I.only,I.bR,bp]
 have R:=aw
 repeat' ((first |(with_reducible refine .guard (fun hb =>?_) (fun hb =>?_) <;>try simp only[hb])|refine U.aC (by decide +kernel) rfl fun K hK =>?_|(refine .aA [0,1,2,3,4,5,6,7,8,16,26,52,55,65] hK ?_;clear hK K)|(with_reducible refine .done (hK _ ?_);clear hK K)|refine U.of rfl ?_|(with_reducible refine aj.aB (fun h =>?_) (fun h =>?_) <;>try simp only[h])) <;>try simp only[aD,R,simprocAttr])
 all_goals clear R
 refine U.loop (fun i:Nat=>aq [(2,.ptr 2 []),(3,.ptr 3 []),(4,.ptr 4 []),(6,enc ((dx a (b.take i)).foldl dU a)),(7,.int .i64 i)] [(2,.box (enc (⟨a⟩:cN))),(3,.box (enc (⟨b⟩:cN))),(4,.box (.agg [.nils 8]))]) (fun i=>i≤b.length∧iQ a (b.take i)=false) (fun i=>b.length-i) 0 ⟨zx7 _,rfl⟩ ?_ ?_
 ·refine bl.b6 ?_ ?_ ?_ ?_ <;>simp[bG,bJ,bF,bA,al,bH,cw,I.only,I.bR,ai.only,bp]
  all_goals rfl
 rintro i ⟨hi,hd⟩;have hol:=AH (dx a (b.take i)) a;have hll:=BC a b i;by_cases hlt:i<b.length
 case neg =>
  have hc:=eV hlt;have hge:i=b.length:=by omega
  subst hge;rw[List.take_length] at hd hol hll ⊢;have hJ2:=V6 q1 q2 hd;rw[←hJ] at hJ2;generalize (dx a b).foldl dU a=out at *;rw[hJ2];by_cases hl60:60<out.length
  ·have h60:decide ((out.length:Int)>60)=true:=by simp;omega
   rw[if_pos hl60];have R:=y6 @hc (y6 @h60 (y6 @dp (y6 @gm aw)))
   repeat' ((first |(with_reducible refine .guard (fun hb =>?_) (fun hb =>?_) <;>try simp only[hb])|refine U.aC (by decide +kernel) rfl fun K hK =>?_|(refine .aA [0,1,2,3,4,5,6,7,8,16,26,52,55,65] hK ?_;clear hK K)|(with_reducible refine .done (hK _ ?_);clear hK K)|refine U.of rfl ?_|(with_reducible refine aj.aB (fun h =>?_) (fun h =>?_) <;>try simp only[h])) <;>try simp only[aD,R,simprocAttr])
   all_goals clear R
   all_goals rfl
  ·have h60:decide ((out.length:Int)>60)=false:=by simp;omega
   rw[if_neg hl60];have R:=y6 @hc (y6 @h60 (y6 @dp (y6 @gm aw)))
   repeat' ((first |(with_reducible refine .guard (fun hb =>?_) (fun hb =>?_) <;>try simp only[hb])|refine U.aC (by decide +kernel) rfl fun K hK =>?_|(refine .aA [0,1,2,3,4,5,6,7,8,16,26,52,55,65] hK ?_;clear hK K)|(with_reducible refine .done (hK _ ?_);clear hK K)|refine U.of rfl ?_|(with_reducible refine aj.aB (fun h =>?_) (fun h =>?_) <;>try simp only[h])) <;>try simp only[aD,R,simprocAttr])
   all_goals clear R
   all_goals rfl
 have hc:=eC hlt;have he:=fun A=>ec (A:=A) 8 hlt rfl;have hw:=ew (i:=i) (by omega);have hdx:=zX (a:=a) hlt;have hhit:=zY (a:=a) hlt;have hlk:=BB (a:=a) hlt;have f96:=F9 a b[i].aY ha;have f97:=xz ((dx a (b.take i)).foldl dU a) b[i] (by omega);rw[hd,Bool.false_or] at hdx;have hnext:(dx a (b.take (i+1))).foldl dU a=if a.any (gU b[i])=true then (dx a (b.take i)).foldl dU a else dU ((dx a (b.take i)).foldl dU a) b[i]:=by
  rw[hlk];split <;>simp[List.foldl_append]
 cases q3:a.find? (fun r=>decide (r.aY=b[i].aY)) with
 |some r =>
  obtain ⟨k,hk,h1,h2⟩:=Az (i:=0) q3;rw[Z5] at h1;obtain ⟨s1,s2⟩:=By b1.j4 q3;have hea:=fun A=>ec (A:=A) 8 hk rfl;have hr:a[k]=r:=by rw[zz0 hk] at h2;exact Option.some.inj h2
  rw[hr] at hea;rw[s2] at hdx hhit;rw[s1,if_pos rfl] at hnext;clear hlk q3 s1 s2;generalize b[i]=x at *;obtain ⟨m1,hm1⟩:∃ m1:Int,m1=(k:Int):=⟨_,rfl⟩
  rw[h1,←hm1] at f96;simp only[←hm1] at hea;have hge:decide (m1≥0)=true:=decide_eq_true (by omega);have hls:decide (m1<0)=false:=decide_eq_false (by omega);clear h1 hm1 hr h2;by_cases q4:r=x
  ·have q4':decide (r≠x)=false:=by simp[q4]
   have q5:(!decide (r=x))=false:=by simp[q4]
   rw[q4'] at hdx;clear hhit;subst q4;have R:=y6 @hc (y6 @he (y6 @hea (y6 @hge (y6 @hls (y6 @hw (y6 @Bool.not_true (y6 @dp aw)))))))
   repeat' ((first |(with_reducible refine .guard (fun hb =>?_) (fun hb =>?_) <;>try simp only[hb])|refine U.aC (by decide +kernel) rfl fun K hK =>?_|refine .lead _ (f96) ?_|(refine .aA [0,1,2,3,4,5,6,7,8,16,26,52,55,65] hK ?_;clear hK K)|(with_reducible refine .done (hK _ ?_);clear hK K)|refine U.of rfl ?_|(with_reducible refine aj.aB (fun h =>?_) (fun h =>?_) <;>try simp only[h])) <;>try simp only[aD,R,decide_true,simprocAttr])
   all_goals clear R
   refine ⟨i+1,⟨by omega,hdx⟩,by omega,?_⟩;rw[hnext];refine bl.b6 ?_ ?_ ?_ ?_ <;>simp[bG,bJ,bF,bA,al,bH,cw,I.only,I.bR,ai.only,bp]
   all_goals rfl
  ·have q4':decide (r≠x)=true:=by simp[q4]
   have q5:decide (r=x)=false:=by simp[q4]
   rw[hJ,Bw q1 q2 (hhit q4')];clear hdx hhit;have R:=y6 @hc (y6 @he (y6 @hea (y6 @hge (y6 @hls (y6 @hw (y6 @q5 (y6 @Bool.not_false (y6 @dp (y6 @gm aw)))))))))
   repeat' ((first |(with_reducible refine .guard (fun hb =>?_) (fun hb =>?_) <;>try simp only[hb])|refine U.aC (by decide +kernel) rfl fun K hK =>?_|refine .lead _ (f96) ?_|(refine .aA [0,1,2,3,4,5,6,7,8,16,26,52,55,65] hK ?_;clear hK K)|(with_reducible refine .done (hK _ ?_);clear hK K)|refine U.of rfl ?_|(with_reducible refine aj.aB (fun h =>?_) (fun h =>?_) <;>try simp only[h])) <;>try simp only[aD,R,simprocAttr])
   all_goals clear R
   all_goals rfl
 |none =>
  obtain ⟨m1,hm1⟩:∃ m1:Int,m1=-1:=⟨_,rfl⟩
  rw[Ay q3,←hm1] at f96;have hge:decide (m1≥0)=false:=by rw[hm1];rfl
  have hls:decide (m1<0)=true:=by rw[hm1];rfl
  obtain ⟨s1,s2⟩:=Bx q3;rw[s2] at hdx;rw[s1,if_neg (by decide)] at hnext;clear hlk q3 s1 s2 hhit;generalize b[i]=x at *;have R:=y6 @hc (y6 @he (y6 @hge (y6 @hls (y6 @hw (y6 @dp (y6 @gm aw))))))
  repeat' ((first |(with_reducible refine .guard (fun hb =>?_) (fun hb =>?_) <;>try simp only[hb])|refine U.aC (by decide +kernel) rfl fun K hK =>?_|refine .lead _ (f96) ?_|refine .lead _ (f97) ?_|(refine .aA [0,1,2,3,4,5,6,7,8,16,26,52,55,65] hK ?_;clear hK K)|(with_reducible refine .done (hK _ ?_);clear hK K)|refine U.of rfl ?_|(with_reducible refine aj.aB (fun h =>?_) (fun h =>?_) <;>try simp only[h])) <;>try simp only[aD,R,simprocAttr])
  all_goals clear R
  refine ⟨i+1,⟨by omega,hdx⟩,by omega,?_⟩;rw[hnext];refine bl.b6 ?_ ?_ ?_ ?_ <;>simp[bG,bJ,bF,bA,al,bH,cw,I.only,I.bR,ai.only,bp]
  all_goals rfl
end Go.Proofs.YtoffnnjbplgnaaaGreatDoor
namespace Go.Abs
open Go Go.RowKit
theorem BW(ρ:Nat→Nat):∀ (ts:List (Nat×I)) (t:Nat),bP (ts.map fun q=>(q.1,q.2.aO ρ)) t=(bP ts t).aO ρ
 | [],_=>rfl
 |(k,v)::ts,t=>by
  simp only[Z3,bP];split
  ·rfl
  ·exact BW ρ ts t
theorem bl.aO{ts:List (Nat×I)}{os:List (Nat×ai)}(ρ:List (Nat×Nat))(inj:∀ m m',al os m=true→al os m'=true→bg ρ m=bg ρ m'→m=m')(sm:∀ m,al os m=true→bg ρ m<1000000∨bg ρ m=m)
  (hT:bF (al os) ts) (hO:∀ n x,aE os n=some x→x.only (al os)=true):bl (aq ts os) (aq (ts.map fun q=>(q.1,q.2.aO (bg ρ))) (cL ρ os)):=by
 rintro c a w ⟨D,E,hs⟩
 let E':aN:=fun n=>match pre ρ os n with | some m=>E m | none=>none
 have ao:∀ m,al os m=true→E' (bg ρ m)=E m:=fun m hm=>by
  show (match pre ρ os (bg ρ m) with | some m=>E m | none=>none)=E m
  cases hp:pre ρ os (bg ρ m) with
  |none=>exact absurd rfl (vU hp hm)
  |some m' =>
   obtain ⟨k1,k2⟩:=iD hp;rw[inj m' m k1 hm k2]
 refine ⟨D,E',hs.sz,hs.eb,fun t =>?_,hs.de,hs.cK,hs.cO,fun n =>?_,fun n m e e' b h1 h2 h3 h4 =>?_,fun n e hn =>?_,hs.eD,hs.cA,hs.eS,hs.ft⟩
 ·simp only[aq,BW];exact (aR.aO (p:=al os) ao (vM hT t)).2 (hs.dF t)
 ·have hl:=pW ρ os [] n;rw[List.append_nil] at hl;simp only[aq,hl];cases hp:pre ρ os n with
  |none =>
   show (match pre ρ os n with | some m=>E m | none=>none)=none
   rw[hp]
  |some m =>
   obtain ⟨k1,k2⟩:=iD hp;have hEn:E' n=E m:=by rw[←k2];exact ao m k1
   cases hx:aE os m with
   |none=>simp[al,hx] at k1
   |some x =>
    have ho:=hs.bB m;have hon:=hO m x hx;simp only[aq,hx] at ho;simp only[hx,Z8];cases x with
    |box x =>
     simp only[ai.aO,cJ];obtain ⟨b,cs,T,q1,q2,q3,q4,q5⟩:=ho;exact ⟨b,cs,T,by rw[hEn,mZ];exact q1,q2,q3.aK (by rw[mZ]),(ae.aO (p:=al os) ao x _ (by simpa[ai.only] using hon)).2 q4,q5⟩
    |bQ T sz es =>
     simp only[ai.aO,cJ];obtain ⟨aG,q1,q2,q3⟩:=ho;refine ⟨aG,by rw[hEn,nc];exact q1,fun e he =>?_,?_⟩
     ·rw[oF] at he;obtain ⟨e',he',rfl⟩:=zy3.1 he;rw[oE];exact q2 e' he'
     ·cases aG with
      |none=>simp only at q3 ⊢;rw[q3];rfl
      |some bc =>
       obtain ⟨b,cap⟩:=bc;obtain ⟨cs,pr,rest,g1,g2,g3,g4,g5,g6,g7,g8⟩:=q3;exact ⟨cs,pr,rest,g1,g2,g3,(aH.aO (p:=al os) ao es _ (by simpa[ai.only] using hon)).2 g4,g5,by rw[nc];exact g6,g7,g8⟩
    |dL T xs =>
     simp only[ai.aO,cJ];obtain ⟨aG,q1,q2,q3⟩:=ho;exact ⟨aG,by rw[hEn];exact q1,q2,q3⟩
    |c6 x =>
     simp only[ai.aO,cJ];obtain ⟨b,q1,q2⟩:=ho;exact ⟨b,by rw[hEn];exact q1,q2⟩
    |cg ks vs =>
     simp only[ai.aO,cJ];obtain ⟨b,es,ck,q1,q2,q3,q4,q5,q6,q7⟩:=ho;simp only[ai.only,Z0] at hon;exact ⟨b,es,ck,by rw[hEn];exact q1,q2,q3,q4,(ar.aO (p:=al os) ao ks _ hon.1).2 q5,(ar.aO (p:=al os) ao vs _ hon.2).2 q6,q7⟩
    |it ks vs left cur =>
     simp only[ai.aO,cJ];obtain ⟨r,b,es,ck,dK,se,la,q1,q2,q3,q4,q5,q6,q7⟩:=ho;simp only[ai.only,Z0] at hon;exact ⟨r,b,es,ck,dK,se,la,by rw[hEn];exact q1,q2,q3,q4,(ar.aO (p:=al os) ao ks _ hon.1).2 q5,(ar.aO (p:=al os) ao vs _ hon.2).2 q6,q7⟩
 ·have key:∀ n e,E' n=some e→∃ m,pre ρ os n=some m∧E m=some e:=fun n e h=>by
   have h':(match pre ρ os n with | some m=>E m | none=>none)=some e:=h;cases hp:pre ρ os n with
   |none=>rw[hp] at h';cases h'
   |some m=>rw[hp] at h';exact ⟨m,rfl,h'⟩
  obtain ⟨n',p1,p2⟩:=key n e h1;obtain ⟨m',p3,p4⟩:=key m e' h2;have:=hs.cz n' m' e e' b p2 p4 h3 h4;rw[←(iD p1).2,←(iD p3).2,this]
 ·cases hp:pre ρ os n with
  |none =>
   left
   show (match pre ρ os n with | some m=>E m | none=>none)=none
   rw[hp]
  |some m =>
   obtain ⟨k1,k2⟩:=iD hp;have hEn:E' n=E m:=by rw[←k2];exact ao m k1
   rcases sm m k1 with h | h
   ·have:=(hs.eD n (by rw[hn];simp)).2;omega
   ·rw[hEn];have:m=n:=by omega
    subst this;exact hs.dw m e hn
theorem bl.YD{ts ts':List (Nat×I)}{os os':List (Nat×ai)}(ρ:List (Nat×Nat))(inj:∀ m m',al os m=true→al os m'=true→bg ρ m=bg ρ m'→m=m')(sm:∀ m,al os m=true→bg ρ m<1000000∨bg ρ m=m)
  (hT:bF (al os) ts) (hO:∀ n x,aE os n=some x→x.only (al os)=true) (h:bl (aq (ts.map fun q=>(q.1,q.2.aO (bg ρ))) (cL ρ os)) (aq ts' os')):bl (aq ts os) (aq ts' os') :=
 (bl.aO ρ inj sm hT hO).trans h
end Go.Abs
namespace Go.Proofs.YtoffnnjbplgnaaaGreatDoor
open Go Go.Abs
open Go.Abs.Enc (enc)
def mq(v:I)(ov:List (Nat×ai))(R:List ah):Prop:=(R=[]∧(v=.c0 8∨v=.nils 8)∧ov=[])∨∃ q:List ah,v=.view 904 [] 8 0 R.length∧ov=[(904,.box (.agg ((R++q).map enc)))]
theorem Zk{v:I}{ov os:List (Nat×ai)}{R:List ah}(h:mq v ov R)(hs:aE os 904=aE ov 904):iL 8 v os R [904]:=by
 rcases h with ⟨rfl,h,_⟩ | ⟨q,rfl,rfl⟩
 ·exact .inl ⟨rfl,h⟩
 ·exact .inr ⟨904,q,by simp,rfl,hs.trans (by simp[aE])⟩
theorem Zl{v:I}{ov:List (Nat×ai)}{R:List ah}(h:mq v ov R):∀ n,n≠904→aE ov n=none:=by
 intro n hn;rcases h with ⟨_,_,rfl⟩ | ⟨q,_,rfl⟩
 ·rfl
 ·simp[aE,hn]
def je(a b:List ah)(i:Nat)(v:I)(ov:List (Nat×ai)):ab :=
 aq [(2,.ptr 2 []),(3,.ptr 3 []),(4,.ptr 4 []),(6,v),(24,enc b),(25,.int .i64 b.length),(26,.int .i64 i)]
  ([(2,.box (enc (⟨a⟩:cN))),(3,.box (enc (⟨b⟩:cN))),(4,.box (.agg [.nils 8]))]++ov)
theorem Zj{l:List ah}{x:I}{os':List (Nat×ai)}(h:mA l x os'):mq (x.aO (bg [(7,904)])) (cL [(7,904)] os') l:=by
 rcases h with ⟨hn,rfl | rfl,rfl⟩ | ⟨hn,k,rfl,rfl⟩
 ·exact .inl ⟨hn,.inr rfl,rfl⟩
 ·exact .inl ⟨hn,.inl rfl,rfl⟩
 ·refine .inr ⟨List.replicate k ct,by simp[I.aO,bg],?_⟩;simp only[eR,jv,Z3,cL,bg,if_true,ai.aO,I.aO,zz6]
theorem Zv{a b:List ah}{i:Nat}{v:I}{R:List ah}{ts:List (Nat×I)}{os:List (Nat×ai)}(hg:iL 8 v os R [53,904])
  (t2:Abs.bP ts 2=.ptr 2 []) (t3:Abs.bP ts 3=.ptr 3 []) (t4:Abs.bP ts 4=.ptr 4 []) (t6:Abs.bP ts 6=v) (t24:Abs.bP ts 24=enc b) (t25:Abs.bP ts 25=.int .i64 b.length) (t26:Abs.bP ts 26=.int .i64 i)
  (h2:aE os 2=some (.box (enc (⟨a⟩:cN)))) (h3:aE os 3=some (.box (enc (⟨b⟩:cN)))) (h4:aE os 4=some (.box (.agg [.nils 8]))) :
  ∃ v' ov',mq v' ov' R∧bl (aq ts os) (je a b i v' ov'):=by
 rcases hg with ⟨rfl,hv⟩ | ⟨n,qq,hn,rfl,hb⟩
 ·refine ⟨v,[],.inl ⟨rfl,hv,rfl⟩,?_⟩;simp only[je,List.append_nil];refine bl.b6 ?_ ?_ ?_ ?_ <;>rcases hv with rfl | rfl <;>simp[bG,bJ,bF,bA,al,cw,I.only,I.bR,ai.only,bp,t2,t3,t4,t6,t24,t25,t26,h2,h3,h4]
 ·refine ⟨.view 904 [] 8 0 R.length,[(904,.box (.agg ((R++qq).map enc)))],.inr ⟨qq,rfl,rfl⟩,?_⟩;have hs:bl (aq ts os) (aq [(2,.ptr 2 []),(3,.ptr 3 []),(4,.ptr 4 []),(6,.view n [] 8 0 R.length),(24,enc b),(25,.int .i64 b.length),(26,.int .i64 i)]
    [(2,.box (enc (⟨a⟩:cN))),(3,.box (enc (⟨b⟩:cN))),(4,.box (.agg [.nils 8])),(n,.box (.agg ((R++qq).map enc)))]):=by
   simp only[zy8,List.not_mem_nil,or_false] at hn;rcases hn with rfl | rfl <;>refine bl.b6 ?_ ?_ ?_ ?_ <;>simp[bG,bJ,bF,bA,al,cw,I.only,I.bR,ai.only,bp,t2,t3,t4,t6,t24,t25,t26,h2,h3,h4,hb,oA,ku]
  refine hs.trans ?_;simp only[zy8,List.not_mem_nil,or_false] at hn;refine bl.YD [(n,904)] (fun a b ha hb h =>?_) (fun a ha =>?_) ?_ (fun a y ha =>?_) ?_
  ·rcases hn with rfl | rfl
   all_goals
    simp only[al,aE] at ha hb
    (repeat' split at ha) <;>first | (cases ha;done) | skip
    all_goals (repeat' split at hb) <;>first | (cases hb;done) | (subst_vars;first | rfl | (simp[bg] at h;done))
  ·rcases hn with rfl | rfl
   all_goals
    simp only[al,aE] at ha
    (repeat' split at ha) <;>first | (cases ha;done) | (subst_vars;simp[bg])
  ·rcases hn with rfl | rfl
   all_goals simp[bF,al,cw,I.only,bp]
  ·rcases hn with rfl | rfl
   all_goals
    simp only[aE] at ha
    (repeat' split at ha) <;>first | (cases ha;done) | (subst_vars;cases ha;simp[ai.only,I.only,I.bR,bp,oA,ku])
  ·rcases hn with rfl | rfl
   all_goals
    simp only[Z3,zz6,cL,ai.aO,I.aO,I.cS,gJ,jv,bg];refine bl.b6 ?_ ?_ ?_ ?_ <;>simp[bG,bJ,bF,bA,al,bH,cw,I.only,I.bR,ai.only,bp,oA,ku]
theorem Zw{a b:List ah}{i:Nat}{v:I}{R:List ah}{ts:List (Nat×I)}{os:List (Nat×ai)}(hlt:i<b.length)(hR:a++dx a (b.take (i+1))=R)(hd:iQ a (b.take (i+1))=false)(hg:iL 8 v os R [53,904])
  (t2:Abs.bP ts 2=.ptr 2 []) (t3:Abs.bP ts 3=.ptr 3 []) (t4:Abs.bP ts 4=.ptr 4 []) (t6:Abs.bP ts 6=v) (t24:Abs.bP ts 24=enc b) (t25:Abs.bP ts 25=.int .i64 b.length) (t26:Abs.bP ts 26=.int .i64 ((i+1:Nat):Int))
  (h2:aE os 2=some (.box (enc (⟨a⟩:cN)))) (h3:aE os 3=some (.box (enc (⟨b⟩:cN)))) (h4:aE os 4=some (.box (.agg [.nils 8]))) :
  ∃ s':Nat×I×List (Nat×ai),(s'.1≤b.length∧iQ a (b.take s'.1)=false∧mq s'.2.1 s'.2.2 (a++dx a (b.take s'.1)))∧b.length-s'.1<b.length-i∧bl (aq ts os) (je a b s'.1 s'.2.1 s'.2.2):=by
 obtain ⟨v',ov',k1,k2⟩:=Zv (i:=i+1) hg t2 t3 t4 t6 t24 t25 t26 h2 h3 h4;exact ⟨(i+1,v',ov'),⟨by simp only;omega,hd,by simp only;rw[hR];exact k1⟩,by simp only;omega,k2⟩
theorem MX{a b:List ah}{i:Nat}{v:I}{ov:List (Nat×ai)}{R:List ah}(h:mq v ov R):bl (je a b i v ov) (je a b i (enc R) []):=by
 rcases h with ⟨rfl,hv,rfl⟩ | ⟨q,rfl,rfl⟩
 ·rcases hv with rfl | rfl
  ·refine bl.jJ [] 6 (x:=.c0 8) (y:=enc ([]:List ah)) rfl (by rfl) ?_ ?_ ?_ ?_ ?_ <;>simp[c7,bA,ai.only,bG,bJ,bF,fO,bH,aE,al,I.only,I.bR,bp]
  ·refine bl.jJ [] 6 (x:=.nils 8) (y:=enc ([]:List ah)) rfl (by rfl) ?_ ?_ ?_ ?_ ?_ <;>simp[c7,bA,ai.only,bG,bJ,bF,fO,bH,aE,al,I.only,I.bR,bp]
 ·refine bl.jJ [904] 6 (x:=.view 904 [] 8 0 R.length) (y:=enc R) rfl ?_ ?_ ?_ ?_ ?_ ?_
  ·have:jk 8 0 R.length (some ((R++q).map enc))=some (enc R):=by
    rw[mE (α:=ah) (sz:=8) rfl,List.take_left]
   exact this
  ·simp[c7,bA,ai.only,I.only,I.bR,bp]
  ·simp[bG,fO,bH,I.only,bp]
  ·simp[bJ,c7,aE]
  ·simp[bF,al,aE,I.only,bp]
  ·simp[bA,ai.only,I.only,I.bR,bp]
theorem V8{a b:List ah}(q1:fy a=true)(q2:fy b=true)(hd:iQ a b=false) :
  fb a b=if 60<(a++dx a b).length then ([],2) else (da (a++dx a b),0):=by
 rw[fb,q1,q2,hd];rfl
theorem FV(a b:List ah)(ha:a.length≤4000000000000)(hb:b.length≤4000000000000):aQ Tryz.prog 39 [enc (⟨a⟩:cN),enc (⟨b⟩:cN)] (.tuple [enc (⟨(fb a b).1⟩:cN),enc (fb a b).2]):=by
 refine aQ.bO Tryz.func39 H6 Jo KL (t8 rfl) (fun hwf W0 bE E1 =>?_);simp only[yS,Dm,bD,Z5];clear hwf;have f1:=tK a ha;have f2:=tK b hb;cases q1:fy a
 ·rw[q1] at f1;have e:fb a b=([],81):=by rw[fb,q1];rfl
  rw[e];have R:=y6 @dp (y6 @gm aw)
  repeat' ((first |(with_reducible refine .guard (fun hb =>?_) (fun hb =>?_) <;>try simp only[hb])|refine U.aC (by decide +kernel) rfl fun K hK =>?_|refine .flat _ (f1) rfl ?_|(refine .aA [0,1,2,3,4,5,6,8,9,10,18,24,25,26,27,46,49,57] hK ?_;clear hK K)|(with_reducible refine .done (hK _ ?_);clear hK K)|refine U.of rfl ?_|(with_reducible refine aj.aB (fun h =>?_) (fun h =>?_) <;>try simp only[h])) <;>try simp only[aD,R,simprocAttr])
  all_goals clear R
  all_goals rfl
 cases q2:fy b
 ·rw[q1] at f1;rw[q2] at f2;have e:fb a b=([],81):=by rw[fb,q1,q2];rfl
  rw[e];have R:=y6 @dp (y6 @gm aw)
  repeat' ((first |(with_reducible refine .guard (fun hb =>?_) (fun hb =>?_) <;>try simp only[hb])|refine U.aC (by decide +kernel) rfl fun K hK =>?_|refine .flat _ (f1) rfl ?_|refine .flat _ (f2) rfl ?_|(refine .aA [0,1,2,3,4,5,6,8,9,10,18,24,25,26,27,46,49,57] hK ?_;clear hK K)|(with_reducible refine .done (hK _ ?_);clear hK K)|refine U.of rfl ?_|(with_reducible refine aj.aB (fun h =>?_) (fun h =>?_) <;>try simp only[h])) <;>try simp only[aD,R,simprocAttr])
  all_goals clear R
  all_goals rfl
 have b1:=mw q1;have b2:=mw q2;rw[q1] at f1;rw[q2] at f2;have hla:a.length≤60:=b1.len;have hlb:b.length≤60:=b2.len;obtain ⟨J,hJ⟩:∃ J,J=fb a b:=⟨_,rfl⟩
 rw[←hJ];refine .dE (by decide +kernel) fun K hK =>?_;simp only[AW,aX,simprocAttr];refine .done (hK _ ?_);clear hK K;refine U.seq (U.w7 (aq [(2,.ptr 2 []),(3,.ptr 3 []),(4,.ptr 4 [])] [(2,.box (enc (⟨a⟩:cN))),(3,.box (enc (⟨b⟩:cN))),(4,.box (.agg [.nils 8]))]) ?_ fun B hB=>U.sub hB ?_)
 ·have R:=y6 @dp (y6 @gm aw)
  repeat' ((first |(with_reducible refine .guard (fun hb =>?_) (fun hb =>?_) <;>try simp only[hb])|refine U.aC (by decide +kernel) rfl fun K hK =>?_|refine .flat _ (f1) rfl ?_|refine .flat _ (f2) rfl ?_|(refine .aA [0,1,2,3,4,5,6,8,9,10,18,24,25,26,27,46,49,57] hK ?_;clear hK K)|(with_reducible refine .done (hK _ ?_);clear hK K)|refine U.of rfl ?_|(with_reducible refine aj.aB (fun h =>?_) (fun h =>?_) <;>try simp only[h])) <;>try simp only[aD,R,simprocAttr])
  all_goals clear R
  refine bl.b6 ?_ ?_ ?_ ?_ <;>simp[bG,bJ,bF,bA,al,bH,cw,I.only,I.bR,ai.only,bp]
 have R:=aw
 repeat' ((first |(with_reducible refine .guard (fun hb =>?_) (fun hb =>?_) <;>try simp only[hb])|refine U.aC (by decide +kernel) rfl fun K hK =>?_|(refine .aA [0,1,2,3,4,5,6,8,9,10,18,24,25,26,27,46,49,57] hK ?_;clear hK K)|(with_reducible refine .done (hK _ ?_);clear hK K)|refine U.of rfl ?_|(with_reducible refine aj.aB (fun h =>?_) (fun h =>?_) <;>try simp only[h])) <;>try simp only[aD,R,simprocAttr])
 all_goals clear R
 refine .bB false [(7,904)] [] [enc a] (mA a) rfl (qI a (by omega)) eP.nil ⟨.inl ⟨(gJ _ _).symm,bp _ _,e9 _⟩,trivial⟩ ?_ ?_
 ·rintro x os' (⟨_,h | h,rfl⟩ | ⟨_,k,rfl,rfl⟩)
  ·subst h;exact df.nil (fun _=>rfl) (fun h=>by cases h)
  ·subst h;exact df.nil (fun _=>rfl) (fun h=>by cases h)
  ·exact df.pZ (fun p=>fo p _) (fun h=>by cases h) rfl (fun h=>by cases h) rfl (by decide)
 intro y os' hp;have hsrc:=Zj hp;generalize y.aO (bg [(7,904)])=v at hsrc ⊢;generalize cL [(7,904)] os'=ov at hsrc ⊢
 try simp only[aX,simprocAttr]
 refine .done (hK _ ?_);clear hK K
 try simp only[cH,simprocAttr]
 refine U.sub (B:=aq [(2,.ptr 2 []),(3,.ptr 3 []),(4,.ptr 4 []),(6,v)] ([(2,.box (enc (⟨a⟩:cN))),(3,.box (enc (⟨b⟩:cN))),(4,.box (.agg [.nils 8]))]++ov)) ?_ ?_
 ·rcases hsrc with ⟨rfl,hv,rfl⟩ | ⟨qq,rfl,rfl⟩
  ·rcases hv with rfl | rfl
   ·refine bl.b6 ?_ ?_ ?_ ?_ <;>simp[bG,bJ,bF,bA,al,bH,cw,I.only,I.bR,ai.only,bp]
   ·refine bl.b6 ?_ ?_ ?_ ?_ <;>simp[bG,bJ,bF,bA,al,bH,cw,I.only,I.bR,ai.only,bp]
  ·refine bl.b6 ?_ ?_ ?_ ?_ <;>simp[bG,bJ,bF,bA,al,bH,cw,I.only,I.bR,ai.only,ku,oA,bp]
 simp only[zz2,zz3];have R:=aw
 repeat' ((first |(with_reducible refine .guard (fun hb =>?_) (fun hb =>?_) <;>try simp only[hb])|refine U.aC (by decide +kernel) rfl fun K hK =>?_|(refine .aA [0,1,2,3,4,5,6,8,9,10,18,24,25,26,27,46,49,57] hK ?_;clear hK K)|(with_reducible refine .done (hK _ ?_);clear hK K)|refine U.of rfl ?_|(with_reducible refine aj.aB (fun h =>?_) (fun h =>?_) <;>try simp only[h])) <;>try simp only[aD,R,simprocAttr])
 all_goals clear R
 refine U.loop (fun t:Nat×I×List (Nat×ai)=>je a b t.1 t.2.1 t.2.2) (fun t=>t.1≤b.length∧iQ a (b.take t.1)=false∧mq t.2.1 t.2.2 (a++dx a (b.take t.1))) (fun t=>b.length-t.1) (0,v,ov) ⟨zx7 _,rfl,by simpa[dx] using hsrc⟩ ?_ ?_
 ·rcases hsrc with ⟨rfl,hv,rfl⟩ | ⟨qq,rfl,rfl⟩
  ·simp only[je,List.append_nil];rcases hv with rfl | rfl
   ·refine bl.b6 ?_ ?_ ?_ ?_ <;>simp[bG,bJ,bF,bA,al,bH,cw,I.only,I.bR,ai.only,bp]
   ·refine bl.b6 ?_ ?_ ?_ ?_ <;>simp[bG,bJ,bF,bA,al,bH,cw,I.only,I.bR,ai.only,bp]
  ·simp only[je,zz2,zz3];refine bl.b6 ?_ ?_ ?_ ?_ <;>simp[bG,bJ,bF,bA,al,bH,cw,I.only,I.bR,ai.only,ku,oA,bp]
 rintro ⟨i,v2,ov2⟩ ⟨hi,hd,hs2⟩;simp only at hi hd hs2 ⊢;have hll:=BC a b i;have hn2:=Zl hs2;have hn8:=hn2 8 (by decide);by_cases hlt:i<b.length
 case neg =>
  have hc:=eV hlt;have hge:i=b.length:=by omega
  subst hge;rw[List.take_length] at hd hs2 hll;have hJ2:=V8 q1 q2 hd;rw[←hJ] at hJ2;refine U.sub (MX hs2) ?_;have f95:¬ 60<(a++dx a b).length→aQ Tryz.prog 95 [enc (a++dx a b)] (enc (⟨da (a++dx a b)⟩:cN)):=fun h=>xw _ (by omega) (vi b1.j4 b2.j4);simp only[je,zz2,zz3,List.append_nil];generalize a++dx a b=out at *;rw[hJ2];by_cases hl60:60<out.length
  ·have h60:decide ((out.length:Int)>60)=true:=by simp;omega
   rw[if_pos hl60];have R:=y6 @hc (y6 @h60 (y6 @dp (y6 @gm aw)))
   repeat' ((first |(with_reducible refine .guard (fun hb =>?_) (fun hb =>?_) <;>try simp only[hb])|refine U.aC (by decide +kernel) rfl fun K hK =>?_|(refine .aA [0,1,2,3,4,5,6,8,9,10,18,24,25,26,27,46,49,57] hK ?_;clear hK K)|(with_reducible refine .done (hK _ ?_);clear hK K)|refine U.of rfl ?_|(with_reducible refine aj.aB (fun h =>?_) (fun h =>?_) <;>try simp only[h])) <;>try simp only[aD,R,simprocAttr])
   all_goals clear R
   all_goals rfl
  ·have h60:decide ((out.length:Int)>60)=false:=by simp;omega
   rw[if_neg hl60];have f95':=f95 hl60;simp only;generalize da out=s at *;have R:=y6 @hc (y6 @h60 (y6 @dp (y6 @gm aw)))
   repeat' ((first |(with_reducible refine .guard (fun hb =>?_) (fun hb =>?_) <;>try simp only[hb])|refine U.aC (by decide +kernel) rfl fun K hK =>?_|refine .lead _ (f95') ?_|(refine .aA [0,1,2,3,4,5,6,8,9,10,18,24,25,26,27,46,49,57] hK ?_;clear hK K)|(with_reducible refine .done (hK _ ?_);clear hK K)|refine U.of rfl ?_|(with_reducible refine aj.aB (fun h =>?_) (fun h =>?_) <;>try simp only[h])) <;>try simp only[aD,R,simprocAttr])
   all_goals clear R
   all_goals rfl
 have hc:=eC hlt;have he:=fun A=>ec (A:=A) 8 hlt rfl;have hw:=ew (i:=i) (by omega);have hdx:=zX (a:=a) hlt;have hhit:=zY (a:=a) hlt;have hlk:=BB (a:=a) hlt;have f94:=xv a b[i].aY b1.j4 (by omega);rw[hd,Bool.false_or] at hdx;cases q3:a.find? (fun r=>decide (r.aY=b[i].aY)) with
 |some r =>
  obtain ⟨s1,s2⟩:=By b1.j4 q3;obtain ⟨p1,p2⟩:=MS b1.j4 q3;have p3:=((rT b1.j4 b[i].aY).1 p1).1;have hea:=fun A=>ec (A:=A) 8 p3 rfl;have hr:a[eE a b[i].aY]=r:=by
   rw[zz5,zz0 p3] at p2;exact p2
  rw[hr] at hea;rw[p1] at f94;rw[s2] at hdx hhit;rw[s1,if_pos rfl,List.append_nil] at hlk;clear q3 s1 s2 p1 p2 hr p3;generalize b[i]=x at *;generalize eE a x.aY=k at *;by_cases q4:r=x
  ·have q4':decide (r≠x)=false:=by simp[q4]
   have q5:(decide (r≠x))=false:=by simp[q4]
   rw[q4'] at hdx;clear hhit;subst q4;simp only[je,zz2,zz3];have R:=y6 @hn8 (y6 @eA (y6 @hc (y6 @he (y6 @hea (y6 @hw (y6 @Bool.not_true (y6 @ee (y6 @dp aw))))))))
   repeat' ((first |(with_reducible refine .guard (fun hb =>?_) (fun hb =>?_) <;>try simp only[hb])|refine U.aC (by decide +kernel) rfl fun K hK =>?_|refine .flat _ (f94) rfl ?_|(refine .aA [0,1,2,3,4,5,6,8,9,10,18,24,25,26,27,46,49,57] hK ?_;clear hK K)|(with_reducible refine .done (hK _ ?_);clear hK K)|refine U.of rfl ?_|(with_reducible refine aj.aB (fun h =>?_) (fun h =>?_) <;>try simp only[h])) <;>try simp only[aD,R,decide_true,simprocAttr])
   all_goals clear R
   rw[←hlk] at hs2;refine ⟨(i+1,v2,ov2),⟨by simp only;omega,hdx,hs2⟩,by simp only;omega,?_⟩;clear hdx f94 hea he
   try simp only[]
   rcases hs2 with ⟨hR,hv,rfl⟩ | ⟨qq,rfl,rfl⟩
   ·clear hR;rcases hv with rfl | rfl
    ·refine bl.b6 ?_ ?_ ?_ ?_ <;>simp[bG,bJ,bF,bA,al,bH,cw,I.only,I.bR,ai.only,bp]
    ·refine bl.b6 ?_ ?_ ?_ ?_ <;>simp[bG,bJ,bF,bA,al,bH,cw,I.only,I.bR,ai.only,bp]
   ·generalize a++dx a (b.take (i+1))=R at *;refine bl.b6 ?_ ?_ ?_ ?_ <;>simp[bG,bJ,bF,bA,al,bH,cw,I.only,I.bR,ai.only,ku,oA,bp]
  ·have q4':decide (r≠x)=true:=by simp[q4]
   have q5:decide (r=x)=false:=by simp[q4]
   rw[hJ,Bw q1 q2 (hhit q4')];clear hdx hhit;simp only[je,zz2,zz3];have R:=y6 @hn8 (y6 @eA (y6 @hc (y6 @he (y6 @hea (y6 @hw (y6 @q5 (y6 @Bool.not_false (y6 @ee (y6 @dp (y6 @gm aw))))))))))
   repeat' ((first |(with_reducible refine .guard (fun hb =>?_) (fun hb =>?_) <;>try simp only[hb])|refine U.aC (by decide +kernel) rfl fun K hK =>?_|refine .flat _ (f94) rfl ?_|(refine .aA [0,1,2,3,4,5,6,8,9,10,18,24,25,26,27,46,49,57] hK ?_;clear hK K)|(with_reducible refine .done (hK _ ?_);clear hK K)|refine U.of rfl ?_|(with_reducible refine aj.aB (fun h =>?_) (fun h =>?_) <;>try simp only[h])) <;>try simp only[aD,R,simprocAttr])
   all_goals clear R
   all_goals rfl
 |none =>
  obtain ⟨s1,s2⟩:=Bx q3;rw[MR q3] at f94;rw[s2] at hdx;rw[s1,if_neg (by decide)] at hlk
  replace hlk:a++dx a (b.take (i+1))=a++(dx a (b.take i)++[b[i]]):=by rw[hlk]
  clear q3 s1 s2 hhit;generalize b[i]=x at *;generalize eE a x.aY=k at *;have hbs:gr 8 (some [enc x])=some (enc [x]):=nM 8 x rfl;simp only[je,zz2,zz3];have R:=y6 @hn8 (y6 @eA (y6 @hc (y6 @he (y6 @hw (y6 @hbs (y6 @ee (y6 @dp (y6 @gm aw))))))))
  repeat' ((first |(with_reducible refine .guard (fun hb =>?_) (fun hb =>?_) <;>try simp only[hb])|refine U.aC (by decide +kernel) rfl fun K hK =>?_|refine .flat _ (f94) rfl ?_|(refine .aA [0,1,2,3,4,5,6,8,9,10,18,24,25,26,27,46,49,57] hK ?_;clear hK K)|(with_reducible refine .done (hK _ ?_);clear hK K)|refine U.of rfl ?_|(with_reducible refine aj.aB (fun h =>?_) (fun h =>?_) <;>try simp only[h])) <;>try simp only[aD,R,simprocAttr])
  all_goals clear R
  have hRl:(a++dx a (b.take i)).length≤200:=by rw[Z1];omega
  rw[←zz1] at hlk;generalize a++dx a (b.take i)=R at *;refine aZ.n5 (l:=R) (ys:=[x]) (default:ah) rfl (Zk hs2 (by simp[cw])) (by simp[cw,hn2]) (by rw[List.length_singleton];omega) (by rw[List.length_singleton];simp only[maxLen];omega) fun v3 o3 g3 f3 =>?_;have ho2:aE o3 2=some (.box (enc (⟨a⟩:cN))):=(f3 2 (by decide)).trans (by simp[cw]);have ho3:aE o3 3=some (.box (enc (⟨b⟩:cN))):=(f3 3 (by decide)).trans (by simp[cw]);have ho4:aE o3 4=some (.box (.agg [.nils 8])):=(f3 4 (by decide)).trans (by simp[cw])
  try simp only[aX,simprocAttr]
  refine .done (hK _ ?_);clear hK K;have R:=y6 @hw aw
  repeat' ((first |(with_reducible refine .guard (fun hb =>?_) (fun hb =>?_) <;>try simp only[hb])|refine U.aC (by decide +kernel) rfl fun K hK =>?_|(refine .aA [0,1,2,3,4,5,6,8,9,10,18,24,25,26,27,46,49,57] hK ?_;clear hK K)|(with_reducible refine .done (hK _ ?_);clear hK K)|refine U.of rfl ?_|(with_reducible refine aj.aB (fun h =>?_) (fun h =>?_) <;>try simp only[h])) <;>try simp only[aD,R,simprocAttr])
  all_goals clear R
  exact Zw hlt hlk hdx g3 rfl rfl rfl rfl rfl rfl rfl ho2 ho3 ho4
theorem F7(l:List ah)(hl:l.length≤4000000000000)(a b:List ah)(ha:a.length≤4000000000000)(hb:b.length≤4000000000000):aQ Tryz.prog 9 [enc l,enc (⟨a⟩:cN),enc (⟨b⟩:cN)] (enc true):=by
 refine aQ.bO Tryz.func9 Iu JJ K7 (t8 rfl) (fun hwf W0 bE E1 =>?_);simp only[c9,DK,bD,Z5,Nat.reduceAdd];clear hwf;have f39:=FV a b ha hb;have f40:=FW a b ha hb;have f41:=FX l hl;have f42:=FY l hl;have hm:=V7 a b;have hn:=Zi l;have hbq:∀ a:Int,(a==a)=true:=fun a=>by simp
 generalize fb a b=p at *;generalize lH l=q at *;have f17:=xk p.1 p.1 (by omega);have f17b:=xk q.1 q.1 (by omega);rw[decide_eq_true rfl] at f17 f17b;have R:=y6 @hbq (y6 @dp (y6 @gm aw))
 repeat' ((first |(with_reducible refine .guard (fun hb =>?_) (fun hb =>?_) <;>try simp only[hb])|refine U.aC (by decide +kernel) rfl fun K hK =>?_|refine .flat _ (FG) rfl ?_|refine .lead _ (f39) ?_|refine .lead _ (f40) ?_|refine .lead _ (f41) ?_|refine .lead _ (f42) ?_|refine .flat _ (f17) rfl ?_|refine .flat _ (f17b) rfl ?_|(refine .aA [0,1,2,4,5,6,7,8,9,10,11,12,13,14,15,16,17] hK ?_;clear hK K)|(with_reducible refine .done (hK _ ?_);clear hK K)|refine U.of rfl ?_|(with_reducible refine aj.aB (fun h =>?_) (fun h =>?_) <;>try simp only[h])) <;>try simp only[aD,R,eq_self,simprocAttr])
 all_goals clear R
 all_goals rfl
end Go.Proofs.YtoffnnjbplgnaaaGreatDoor
