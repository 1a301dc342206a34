/-
  A part of the proof that the law RollTexts returns true for every input; five variables of Go's library start as the text lays them (the card ties them); conditions: none beyond the statement's own. (part 5 of 6)
-/
import Derived.ChangeArms
import Derived.Test.YtoffnnjbplgnaaaGreatDoorRows
import Derived.Test.YtoffnnjbplgnaaaGreatDoorCards
import Derived.Test.YtoffnnjbplgnaaaGreatDoorTie
import Derived.LaidMore
import Derived.MakeChecks
import Derived.Lib.LaidTab
import Derived.Lib.LaidU8
import Derived.HandedShaped
import Derived.Shelf.Vars
import Derived.Shelf.SlSortCmp.WholeK
import Derived.Shelf.SlSortCmp.NoneTotal
import Derived.Shelf.Small.Wraps
import Derived.WalkKit
import Derived.Lib.RowBridge
import Derived.Lib.SortBridge
import Derived.StillTailTactics
import Derived.Test.YtoffnnjbplgnaaaGreatDoorNgd
set_option linter.unusedSimpArgs false
set_option linter.unusedVariables false
set_option maxHeartbeats 16000000
set_option maxRecDepth 100000
namespace Go.Proofs.YtoffnnjbplgnaaaGreatDoor
open Go Go.Abs
open Go.Abs.Enc (enc)
def bW(a n:Int):Int:=(IntKind.i64.wrap (a.tmod n+n)).tmod n
theorem kr(a n:Int)(hn:n≠0):aQ Tryz.prog 28 [enc a,enc n] (enc (bW a n)):=by
 refine aQ.bN Tryz.func28 G9 Ii Jw (t8 rfl) (fun hwf W0 bH E1 =>?_);simp only[yj,Cz,bD,Z9];clear hwf;have R:=y6 @hn aE
 repeat' ((first |refine U.aI (by decide +kernel) rfl fun K hK =>?_|(refine .aF [0,1,4] hK ?_;clear hK K)|(with_reducible refine .done (hK _ ?_);clear hK K)|refine U.of rfl ?_|(with_reducible refine ay.aG (fun h =>?_) (fun h =>?_) <;>try simp only[h])) <;>try simp only[aJ,R,simprocAttr])
 all_goals clear R
 all_goals rfl
theorem U4{a n:Int}(ha:-9223372036854775808≤a∧a≤9223372036854775807)(hn:0<n∧n≤4611686018427387904):bW a n=a%n:=by
 have h1:-n<a.tmod n∧a.tmod n<n:=⟨Int.lt_tmod_of_pos a hn.1,Int.tmod_lt_of_pos a hn.1⟩
 have h2:(a.tmod n+n).tmod n=a%n:=by
  rw[Int.tmod_eq_emod_of_nonneg (by omega),Int.add_emod_right];have:=Int.tmod_add_mul_tdiv a n
  conv=>rhs;rw[←this]
  rw[Int.add_mul_emod_self_left]
 have h3:=Int.emod_nonneg a (show n≠0 by omega);have h4:=Int.emod_lt_of_pos a hn.1;rw[bW,dU _ (by omega) (by omega),h2]
theorem qD(a b:List ah)(hl:a.length≤4000000000000):aQ Tryz.prog 17 [enc a,enc b] (enc (decide (a=b))):=by
 refine aQ.bN Tryz.func17 G0 H7 Jm (t8 rfl) (fun hwf W0 bH E1 =>?_);simp only[ya,Cp,bD,Z9];clear hwf;cases q:((a.length:Int)==(b.length:Int))
 ·have hne:decide (a=b)=false:=decide_eq_false fun e=>by rw[e] at q;simp at q
  rw[hne];by_cases h0:0<a.length
  ·have hlc:decide ((0:Int)<(a.length:Int))=true:=decide_eq_true (by omega);have R:=y6 @q aE
   repeat' ((first |(with_reducible refine .guard (fun hb =>?_) (fun hb =>?_) <;>try simp only[hb])|refine U.aI (by decide +kernel) rfl fun K hK =>?_|(refine .aF [0,1,4,5,6,18] hK ?_;clear hK K)|(with_reducible refine .done (hK _ ?_);clear hK K)|refine U.of rfl ?_|(with_reducible refine ay.aG (fun h =>?_) (fun h =>?_) <;>try simp only[h])) <;>try simp only[aJ,R,simprocAttr])
   all_goals clear R
   refine U.loop (fun _:Unit=>aw [(0,enc a),(1,enc b),(5,.bool false),(6,.int .i64 0)] []) (fun _=>True) (fun _=>0) () trivial ?_ ?_
   ·refine bx.cJ ?_ ?_ ?_ ?_ <;>simp[cg,cq,cn,bP,cd,I.only,bG]
   intro _ _;have R:=y6 @q (y6 @hlc aE)
   repeat' ((first |(with_reducible refine .guard (fun hb =>?_) (fun hb =>?_) <;>try simp only[hb])|refine U.aI (by decide +kernel) rfl fun K hK =>?_|(refine .aF [0,1,4,5,6,18] hK ?_;clear hK K)|(with_reducible refine .done (hK _ ?_);clear hK K)|refine U.of rfl ?_|(with_reducible refine ay.aG (fun h =>?_) (fun h =>?_) <;>try simp only[h])) <;>try simp only[aJ,R,simprocAttr])
   all_goals clear R
   all_goals rfl
  ·have hlc:decide ((0:Int)<(a.length:Int))=false:=decide_eq_false (by omega);have R:=y6 @q aE
   repeat' ((first |(with_reducible refine .guard (fun hb =>?_) (fun hb =>?_) <;>try simp only[hb])|refine U.aI (by decide +kernel) rfl fun K hK =>?_|(refine .aF [0,1,4,5,6,18] hK ?_;clear hK K)|(with_reducible refine .done (hK _ ?_);clear hK K)|refine U.of rfl ?_|(with_reducible refine ay.aG (fun h =>?_) (fun h =>?_) <;>try simp only[h])) <;>try simp only[aJ,R,simprocAttr])
   all_goals clear R
   refine U.loop (fun _:Unit=>aw [(0,enc a),(1,enc b),(5,.bool false),(6,.int .i64 0)] []) (fun _=>True) (fun _=>0) () trivial ?_ ?_
   ·refine bx.cJ ?_ ?_ ?_ ?_ <;>simp[cg,cq,cn,bP,cd,I.only,bG]
   intro _ _;have R:=y6 @q (y6 @hlc aE)
   repeat' ((first |(with_reducible refine .guard (fun hb =>?_) (fun hb =>?_) <;>try simp only[hb])|refine U.aI (by decide +kernel) rfl fun K hK =>?_|(refine .aF [0,1,4,5,6,18] hK ?_;clear hK K)|(with_reducible refine .done (hK _ ?_);clear hK K)|refine U.of rfl ?_|(with_reducible refine ay.aG (fun h =>?_) (fun h =>?_) <;>try simp only[h])) <;>try simp only[aJ,R,simprocAttr])
   all_goals clear R
   all_goals rfl
 have hlen:a.length=b.length:=by have:=eq_of_beq q;omega
 have R:=y6 @q aE
 repeat' ((first |(with_reducible refine .guard (fun hb =>?_) (fun hb =>?_) <;>try simp only[hb])|refine U.aI (by decide +kernel) rfl fun K hK =>?_|(refine .aF [0,1,4,5,6,18] hK ?_;clear hK K)|(with_reducible refine .done (hK _ ?_);clear hK K)|refine U.of rfl ?_|(with_reducible refine ay.aG (fun h =>?_) (fun h =>?_) <;>try simp only[h])) <;>try simp only[aJ,R,simprocAttr])
 all_goals clear R
 refine U.loop (fun x:Nat×Bool=>aw [(0,enc a),(1,enc b),(5,.bool x.2),(6,.int .i64 x.1)] []) (fun x=>x.1≤a.length∧(x.2=true→a.take x.1=b.take x.1)∧(x.2=false→a≠b)) (fun x=>a.length-x.1) (0,true) ⟨Nat.zero_le _,by simp,by simp⟩ ?_ ?_
 ·refine bx.cJ ?_ ?_ ?_ ?_ <;>simp[cg,cq,cn,bP,cd,I.only,bG]
 rintro ⟨i,t⟩ ⟨hi,h1,h2⟩;simp only at hi h1 h2 ⊢;cases t
 ·have hne:decide (a=b)=false:=decide_eq_false (h2 rfl);rw[hne];by_cases h0:i<a.length
  ·have hlc:=eR h0;have R:=y6 @hlc aE
   repeat' ((first |(with_reducible refine .guard (fun hb =>?_) (fun hb =>?_) <;>try simp only[hb])|refine U.aI (by decide +kernel) rfl fun K hK =>?_|(refine .aF [0,1,4,5,6,18] hK ?_;clear hK K)|(with_reducible refine .done (hK _ ?_);clear hK K)|refine U.of rfl ?_|(with_reducible refine ay.aG (fun h =>?_) (fun h =>?_) <;>try simp only[h])) <;>try simp only[aJ,R,simprocAttr])
   all_goals clear R
   all_goals rfl
  ·have hlc:=fk h0;have R:=y6 @hlc aE
   repeat' ((first |(with_reducible refine .guard (fun hb =>?_) (fun hb =>?_) <;>try simp only[hb])|refine U.aI (by decide +kernel) rfl fun K hK =>?_|(refine .aF [0,1,4,5,6,18] hK ?_;clear hK K)|(with_reducible refine .done (hK _ ?_);clear hK K)|refine U.of rfl ?_|(with_reducible refine ay.aG (fun h =>?_) (fun h =>?_) <;>try simp only[h])) <;>try simp only[aJ,R,simprocAttr])
   all_goals clear R
   all_goals rfl
 by_cases hlt:i<a.length
 ·have hlc:=eR hlt;have he:=fun A=>fm (A:=A) 8 hlt rfl;have he2:=fun A=>fm (A:=A) (l:=b) (k:=i) 8 (by omega) rfl;have hw:=ez (i:=i) (by omega);have e1:=hU hlt;have e2:=hU (l:=b) (i:=i) (by omega);have hg:a=b→a[i]=b[i]'(by omega):=fun e=>by subst e;rfl
  have h1':=h1 rfl;generalize a[i]=r at *;generalize (b[i]'(by omega))=r' at *;have R:=y6 @hlc (y6 @he (y6 @he2 (y6 @hw aE)))
  repeat' ((first |(with_reducible refine .guard (fun hb =>?_) (fun hb =>?_) <;>try simp only[hb])|refine U.aI (by decide +kernel) rfl fun K hK =>?_|(refine .aF [0,1,4,5,6,18] hK ?_;clear hK K)|(with_reducible refine .done (hK _ ?_);clear hK K)|refine U.of rfl ?_|(with_reducible refine ay.aG (fun h =>?_) (fun h =>?_) <;>try simp only[h])) <;>try simp only[aJ,R,simprocAttr])
  all_goals clear R
  refine ⟨(i+1,decide (r=r')),⟨by simp only;omega,fun h =>?_,fun h =>?_⟩,by simp only;omega,?_⟩
  ·simp only at h ⊢;rw[e1,e2,h1',of_decide_eq_true h]
  ·simp only at h;exact fun e=>of_decide_eq_false h (hg e)
  ·clear hg h1 h2 h1';refine bx.cJ ?_ ?_ ?_ ?_ <;>simp[cg,cq,cn,bP,cd,I.only,bG]
   all_goals rfl
 ·have hlc:=fk hlt;have heq:a=b:=by
   have:=h1 rfl
   rwa [List.take_of_length_le (by omega),List.take_of_length_le (by omega)] at this
  rw[decide_eq_true heq];have R:=y6 @hlc aE
  repeat' ((first |(with_reducible refine .guard (fun hb =>?_) (fun hb =>?_) <;>try simp only[hb])|refine U.aI (by decide +kernel) rfl fun K hK =>?_|(refine .aF [0,1,4,5,6,18] hK ?_;clear hK K)|(with_reducible refine .done (hK _ ?_);clear hK K)|refine U.of rfl ?_|(with_reducible refine ay.aG (fun h =>?_) (fun h =>?_) <;>try simp only[h])) <;>try simp only[aJ,R,simprocAttr])
  all_goals clear R
  all_goals rfl
def di.small(r:di):Prop:=r.bK.length≤140737488351232∧r.ep.length≤140737488351232
def dc.small(r:dc):Prop:=r.du.small∧r.copy.small
def di.all(r:di):List UInt8:=r.bK++r.ep
theorem di.qN{r:di}(h:r.small):r.all.length≤281474976710656:=by
 have:=h.1;have:=h.2;rw[di.all,Z1];omega
theorem jr:I.agg [.aj ⟨#[]⟩,.aj ⟨#[]⟩]=enc (⟨[],[]⟩:di):=rfl
theorem zt:I.agg [.agg [.aj ⟨#[]⟩,.aj ⟨#[]⟩],.agg [.aj ⟨#[]⟩,.aj ⟨#[]⟩]]=enc (⟨⟨[],[]⟩,⟨[],[]⟩⟩:dc):=rfl
theorem mf:I.agg [enc (⟨[],[]⟩:di),enc (⟨[],[]⟩:di)]=enc (⟨⟨[],[]⟩,⟨[],[]⟩⟩:dc):=rfl
theorem fZ:(∀ A n b rest (q r:di),dT A (some 2) n [] b (enc q) rest (some (enc r))=al rest (A.aO n (.box (enc q))))∧(∀ A n b rest (q r:dc),dT A (some 4) n [] b (enc q) rest (some (enc r))=al rest (A.aO n (.box (enc q)))) ∧
  (∀ A n rest (q r:di) (s:dc),dT A (some 2) n [0] (enc s) (enc q) rest (some (enc r))=al rest (A.aO n (.box (enc (⟨q,s.copy⟩:dc)))))∧(∀ A n rest (q r:di) (s:dc),dT A (some 2) n [1] (enc s) (enc q) rest (some (enc r))=al rest (A.aO n (.box (enc (⟨s.du,q⟩:dc))))) :=
 ⟨fun A n b rest q r=>by rw[eK (eY _) (by rw[gO];rfl) ((eE _).trans (eE _).symm),fD],
  fun A n b rest q r=>by rw[eK (eY _) (by rw[gO];rfl) ((eE _).trans (eE _).symm),fD],
  fun A n rest q r s=>by rw[eK (eY _) (by rw[gO];rfl) ((eE _).trans (eE _).symm)];rfl,
  fun A n rest q r s=>by rw[eK (eY _) (by rw[gO];rfl) ((eE _).trans (eE _).symm)];rfl⟩
theorem kE:(∀ x:List UInt8,e9 [.aj ⟨#[]⟩,.aj ⟨#[]⟩] [(0,enc (ak.of x))]=some [enc (ak.of x),enc (ak.of [])])∧(∀ x:List UInt8,I.agg [enc (ak.of x),enc (ak.of [])]=enc (⟨x,[]⟩:di)) ∧
  (∀ p q:di,e9 [.agg [.aj ⟨#[]⟩,.aj ⟨#[]⟩],.agg [.aj ⟨#[]⟩,.aj ⟨#[]⟩]] [(0,enc p),(1,enc q)]=some [enc p,enc q])∧(∀ p q:di,I.agg [enc p,enc q]=enc (⟨p,q⟩:dc)) ∧
  (∀ p q:di,e9 [enc (⟨[],[]⟩:di),enc (⟨[],[]⟩:di)] [(0,enc p),(1,enc q)]=some [enc p,enc q]) :=
 ⟨fun _=>rfl,fun _=>rfl,fun _ _=>rfl,fun _ _=>rfl,fun _ _=>rfl⟩
theorem oJ(r:di)(h:r.small):aQ Tryz.prog 73 [enc r] (enc (ak.of r.all)):=by
 refine aQ.bN Tryz.func73 Hj Is JG (t8 rfl) (fun hwf W0 bH E1 =>?_);simp only[yu,CI,bD];clear hwf;have ha:=eH r.bK r.ep (by have:=h.1;have:=h.2;omega);have R:=y6 @ha (y6 @bl aE)
 repeat' ((first |refine U.aI (by decide +kernel) rfl fun K hK =>?_|(refine .aF [0,1,2] hK ?_;clear hK K)|(with_reducible refine .done (hK _ ?_);clear hK K)|refine U.of rfl ?_|(with_reducible refine ay.aG (fun h =>?_) (fun h =>?_) <;>try simp only[h])) <;>try simp only[aJ,R,simprocAttr])
 all_goals clear R
 all_goals rfl
def ou(r:dc):dc:=⟨⟨r.du.all,[]⟩,⟨r.du.all,[]⟩⟩
theorem EX(r:dc)(h:r.small):aQ Tryz.prog 20 [enc r] (enc (ou r)):=by
 refine aQ.bN Tryz.func20 G4 Ic Jr (t8 rfl) (fun hwf W0 bH E1 =>?_);simp only[c20,Cu,bD];clear hwf;have f:=oJ r.du h.1;have R:=y6 @kE (y6 @jr (y6 @mf (y6 @fZ (y6 @bl aE))))
 repeat' ((first |refine U.aI (by decide +kernel) rfl fun K hK =>?_|refine .flat _ (f) rfl ?_|(refine .aF [0,1,2,3] hK ?_;clear hK K)|(with_reducible refine .done (hK _ ?_);clear hK K)|refine U.of rfl ?_|(with_reducible refine ay.aG (fun h =>?_) (fun h =>?_) <;>try simp only[h])) <;>try simp only[aJ,R,simprocAttr])
 all_goals clear R
 all_goals rfl
def o7(r:dc)(copy:Bool):dc:=if copy then ⟨r.du,⟨[],[]⟩⟩ else ⟨⟨[],[]⟩,r.copy⟩
theorem EY(r:dc)(b:Bool):aQ Tryz.prog 24 [enc r,enc b] (enc (o7 r b)):=by
 refine aQ.bN Tryz.func24 G6 If Jt (t8 rfl) (fun hwf W0 bH E1 =>?_);simp only[yg,Cw,bD,Z9];clear hwf;cases b
 ·have R:=y6 @jr (y6 @mf (y6 @fZ (y6 @bl aE)))
  repeat' ((first |refine U.aI (by decide +kernel) rfl fun K hK =>?_|(refine .aF [0,1,2,4,5] hK ?_;clear hK K)|(with_reducible refine .done (hK _ ?_);clear hK K)|refine U.of rfl ?_|(with_reducible refine ay.aG (fun h =>?_) (fun h =>?_) <;>try simp only[h])) <;>try simp only[aJ,R,simprocAttr])
  all_goals clear R
  all_goals rfl
 ·have R:=y6 @jr (y6 @mf (y6 @fZ (y6 @bl aE)))
  repeat' ((first |refine U.aI (by decide +kernel) rfl fun K hK =>?_|(refine .aF [0,1,2,4,5] hK ?_;clear hK K)|(with_reducible refine .done (hK _ ?_);clear hK K)|refine U.of rfl ?_|(with_reducible refine ay.aG (fun h =>?_) (fun h =>?_) <;>try simp only[h])) <;>try simp only[aJ,R,simprocAttr])
  all_goals clear R
  all_goals rfl
def j7(r:dc):dc×List ah:=(⟨⟨(sB bf da r.du.all r.copy.all).2,[]⟩,⟨(sB bf da r.du.all r.copy.all).2,[]⟩⟩,(sB bf da r.du.all r.copy.all).1)
theorem DK(t:List UInt8):(fX bf da t).2.length≤t.length:=by rw[fX];simp;omega
theorem qE(r:dc)(h:r.small):aQ Tryz.prog 18 [enc r] (.tuple [enc (j7 r).1,enc (j7 r).2]):=by
 refine aQ.bN Tryz.func18 G2 Ia Jp (t8 rfl) (fun hwf W0 bH E1 =>?_);simp only[yc,Cs,bD];clear hwf;have f1:=oJ r.du h.1;have f2:=oJ r.copy h.2;have g1:=oI r.du.all (di.qN h.1);have g2:=oI r.copy.all (di.qN h.2);have l1:=DK r.du.all;have l2:=DK r.copy.all;have:=di.qN h.1;have:=di.qN h.2;have h74:=fun (x:List UInt8) (hx:x.length≤281474976710656)=>E8 (ak.of x) (by rw[ak.de];exact hx);simp only[j7,sB];generalize fX bf da r.du.all=p at *;generalize fX bf da r.copy.all=q at *;by_cases hlt:p.1.length<q.1.length
 ·have hc:decide ((q.1.length:Int)>(p.1.length:Int))=true:=decide_eq_true (by omega);have h74':=h74 q.2 (by omega);simp only[if_pos hlt];have R:=y6 @hc (y6 @kE (y6 @jr (y6 @mf (y6 @fZ (y6 @bl aE)))))
  repeat' ((first |refine U.aI (by decide +kernel) rfl fun K hK =>?_|refine .flat _ (f1) rfl ?_|refine .lead _ (g1) ?_|refine .flat _ (f2) rfl ?_|refine .lead _ (g2) ?_|refine .flat _ (h74') rfl ?_|(refine .aF [0,1,2,3,4,5,6,7,8,27] hK ?_;clear hK K)|(with_reducible refine .done (hK _ ?_);clear hK K)|refine U.of rfl ?_|(with_reducible refine ay.aG (fun h =>?_) (fun h =>?_) <;>try simp only[h])) <;>try simp only[aJ,R,simprocAttr])
  all_goals clear R
  all_goals rfl
 ·have hc:decide ((q.1.length:Int)>(p.1.length:Int))=false:=decide_eq_false (by omega);have h74':=h74 p.2 (by omega);simp only[if_neg hlt];have R:=y6 @hc (y6 @kE (y6 @jr (y6 @mf (y6 @fZ (y6 @bl aE)))))
  repeat' ((first |refine U.aI (by decide +kernel) rfl fun K hK =>?_|refine .flat _ (f1) rfl ?_|refine .lead _ (g1) ?_|refine .flat _ (f2) rfl ?_|refine .lead _ (g2) ?_|refine .flat _ (h74') rfl ?_|(refine .aF [0,1,2,3,4,5,6,7,8,27] hK ?_;clear hK K)|(with_reducible refine .done (hK _ ?_);clear hK K)|refine U.of rfl ?_|(with_reducible refine ay.aG (fun h =>?_) (fun h =>?_) <;>try simp only[h])) <;>try simp only[aJ,R,simprocAttr])
  all_goals clear R
  all_goals rfl
end Go.Proofs.YtoffnnjbplgnaaaGreatDoor
namespace Go.Abs
open Go Go.RowKit Go.ChangeShapes
open Enc (enc)
theorem BJ{P:Program}{t:TypeId}{α:Type}[Enc α]{B:α→Prop}{H:Type}{enc0:TypeId×Value→H}{w:World}{dC:Nat}{v:Value}{d:DataW H}{p:List MemPlace}(ho:lr P t α B)(hA:Enc.gl α=false)(hst:(match P.underlying t with | some (.slice _) | some (.int _) | some .bool | some .string=>true | _=>false)=true)(hv:Value.okWide P w .any dC t v)
  (h:DataW.Trod enc0 P w 0 (fun _=>true) true t v d p) (hwt:∀ k∈d.weights P t,k≤reachBytes):∃ (a:α),B a∧∃ (cs:List Value),aW (enc a) v cs∧ae w (kz w) cu (enc a) cs:=by
 obtain ⟨fuel,h⟩:=h;have hone:v.cells.toList=[v]:=by
  unfold Value.okWide at hv;split at hst
  ·rename_i e ht;rw[ht] at hv;simp only[Cell.okWide,ht] at hv;cases v <;>simp_all[Cell.ok,Value.cells]
  ·rename_i e ht;rw[ht] at hv;simp only[Cell.okWide,ht] at hv;cases v <;>simp_all[Cell.ok,Value.cells]
  ·rename_i ht;rw[ht] at hv;simp only[Cell.okWide,ht] at hv;cases v <;>simp_all[Cell.ok,Value.cells]
  ·rename_i ht;rw[ht] at hv;simp only[Cell.okWide,ht] at hv;cases v <;>simp_all[Cell.ok,Value.cells]
  ·cases hst
 rw[hone] at h;obtain ⟨a,hB,ha⟩:=ho.mH h hwt;exact ⟨a,hB,[v],by simp[aW,Enc.agg,hA],ha⟩
end Go.Abs
namespace Go.Proofs.YtoffnnjbplgnaaaGreatDoor
open Go Go.Abs Go.ChangeShapes Go.WideShapes Go.RowKit
open Go.Abs.Enc (enc)
theorem Tryz.own:ownKnob Tryz.prog.godebug=none:=by kernel_rfl
theorem Tryz.Us:laidOutB Tryz.prog=true:=by kernel_rfl
theorem Bn:nu Tryz.prog 3 Int:=Wc (by kernel_rfl) (by kernel_rfl)
theorem Xi{w:World}{D:aD}{E:aN}{x y z:I}{a b c:Value}(hx:∃ cs,aW x a cs∧ae w D E x cs)(hy:∃ cs,aW y b cs∧ae w D E y cs)(hz:∃ cs,aW z c cs∧ae w D E z cs):ao w D E [x,y,z] [a,b,c]:=by
 obtain ⟨c1,h1,h2⟩:=hx;obtain ⟨c2,h3,h4⟩:=hy;obtain ⟨c3,h5,h6⟩:=hz;simp only[ao];exact ⟨a,[b,c],c1,rfl,h1,h2,b,[c],c2,rfl,h3,h4,c,[],c3,rfl,h5,h6,rfl⟩
def ja : List (String × DataW Unit) := [("math/bits.deBruijn32tab", Rows.laid_math_bits_deBruijn32tab), ("math/bits.deBruijn64tab", Rows.laid_math_bits_deBruijn64tab), ("internal/strconv.uint64pow10", Rows.laid_internal_strconv_uint64pow10), ("strconv.ErrRange", Rows.laid_strconv_ErrRange), ("strconv.ErrSyntax", Rows.laid_strconv_ErrSyntax)]
def Ez:List Int:=[1,10,100,1000,10000,100000,1000000,10000000,100000000,1000000000,10000000000,100000000000,1000000000000,10000000000000,100000000000000,1000000000000000,10000000000000000,100000000000000000,1000000000000000000,10000000000000000000]
theorem SR : Tryz.prog.globalNamed "internal/strconv.uint64pow10" = some 3 := by kernel_rfl
theorem XI:(Tryz.prog.globals[3]?).map (·.type)=some 256:=by kernel_rfl
theorem SQ : Tryz.prog.globalNamed "internal/bytealg.MaxLen" = some 0 := by kernel_rfl
theorem C0:((begin Tryz.prog (fun _ _=>0) default).world.heap[0]?).bind Obj.row?=some (#[.int .i64 0],3):=by kernel_rfl
theorem SU : Tryz.prog.globalNamed "strconv.ErrSyntax" = some 1 := by kernel_rfl
theorem SS : Tryz.prog.globalNamed "strconv.ErrRange" = some 2 := by kernel_rfl
theorem Ed:(Tryz.prog.globals[1]?).map (·.type)=some 199∧(Tryz.prog.globals[2]?).map (·.type)=some 199:=⟨by kernel_rfl,by kernel_rfl⟩
theorem Ax:(match Tryz.prog.underlying 199 with | some (.interface _)=>true | _=>false)=true:=by kernel_rfl
theorem UU {W : World} (hsh : W.ShapedOpen Tryz.prog) : ∃ v, W.var? Tryz.prog "internal/bytealg.MaxLen" = some v ∧ rV .int v := by
 obtain ⟨m,hm⟩:=cell_of_shapedOpen_int (k:=.i64) hsh (show 0<Tryz.prog.globals.size from of_decide_eq_true (by kernel_rfl)) C0 rfl (by kernel_rfl) (by kernel_rfl) (by kernel_rfl);obtain ⟨cs,hh,hs,_⟩:=hsh.1 0 _ _ (show 0<Tryz.prog.globals.size from of_decide_eq_true (by kernel_rfl)) C0;refine ⟨cs,?_,m,?_⟩
 ·unfold World.var?;rw[SQ];simp only[zy5];revert hh;cases hb:W.heap[0]? with
  |none=>intro hh;simp at hh
  |some o =>
   intro hh;cases o <;>simp[] at hh
   simp[hh]
 ·have h1:cs.size=1:=hs;have hcell:W.cell? ⟨0,0,none⟩=cs[0]?:=by
   unfold World.cell?;revert hh;cases hb:W.heap[0]? with
   |none=>intro hh;simp at hh
   |some o =>
    intro hh;cases o <;>simp[] at hh
    rw[←hh.1];rfl
  rw[hcell] at hm;apply Array.ext
  ·simp[h1]
  ·intro i h2 h3;obtain rfl:i=0:=by simp at h3;omega
   have:=(Y3.1 hm).2;simpa using this
theorem zD {W : World} (h : laidMet Tryz.prog ja W) {n : String} {text : List UInt8} {g : Nat} (hn : (n, DataW.iface "*errors.errorString" (.ptr (.agg [.lit (.string text)]))) ∈ ja) (hg : Tryz.prog.globalNamed n = some g) (ht : (Tryz.prog.globals[g]?).map (·.type) = some 199) :
  ∃ v,W.var? Tryz.prog n=some v∧rV .nJ v:=by
 obtain ⟨g',t',cs,fuel,p,hg',ht',hvar,hd⟩:=Lib.laidMet.reads h hn;obtain rfl:=Option.some.inj (hg.symm.trans hg');obtain rfl:=Option.some.inj (ht.symm.trans ht');cases hi:Tryz.prog.underlying 199 with
 |none=>have:=Ax;rw[hi] at this;cases this
 |some d =>
  cases d <;>(try (have:=Ax;rw[hi] at this;cases this;done))
  obtain ⟨_,u,v,hcs,_,_⟩:=iface_of_trod hi hd;refine ⟨cs,hvar,u,v,?_⟩;apply Array.ext';simpa using hcs
theorem VX{W:World}(h:laidMetH Tryz.prog ja W)(hsh:W.ShapedOpen Tryz.prog):eA Tryz.prog W (fun _=>False):=by
 rw[MakeChecks.laidMetH_plain _ _ _ (by kernel_rfl)] at h;intro q hq g hg;refine ⟨id,?_⟩;simp only[mq,zy0,List.not_mem_nil,or_false] at hq;rcases hq with rfl | rfl | rfl | rfl
 ·obtain ⟨g', t', cs, fuel, p, hg', ht', hvar, hd⟩ := Lib.laidMet.reads h (n := "internal/strconv.uint64pow10") (d := Rows.laid_internal_strconv_uint64pow10) (by simp [ja])
  obtain rfl:=Option.some.inj (SR.symm.trans hg');obtain rfl:=Option.some.inj (XI.symm.trans ht');have hd':DataW.trod (fun _=>()) Tryz.prog W 0 (fun _=>true) false fuel 256 cs.toList=some (Lib.tabData .u64 Ez,p):=hd;have hc:=Lib.cells_of_tab (n:=20) (e:=227) (Uc (by kernel_rfl)) (by kernel_rfl) (by kernel_rfl) (by kernel_rfl) hd';refine ⟨cs,hvar,?_⟩
  show cs=AN
  have:cs=(Ez.map fun z=>Value.int .u64 z).toArray:=by rw[←hc]
  rw[this];rfl
 ·exact UU hsh
 ·exact zD h (n := "strconv.ErrSyntax") (text := [105, 110, 118, 97, 108, 105, 100, 32, 115, 121, 110, 116, 97, 120]) (by simp [ja, Rows.laid_strconv_ErrSyntax]) SU Ed.1
 ·exact zD h (n := "strconv.ErrRange") (text := [118, 97, 108, 117, 101, 32, 111, 117, 116, 32, 111, 102, 32, 114, 97, 110, 103, 101]) (by simp [ja, Rows.laid_strconv_ErrRange]) SS Ed.2
theorem W8{H:Type}{enc0:TypeId×Value→H}{a:Assume}{C:Checked}{os:Os}{f:FuncId}{fn:Func}{s:ChangeSpec}{conds:List PathCond}{apart iY handsOn again:Bool}{X:World→Array Value→Prop}
  (hX:∀ (w w':World) (args:Array Value),w.heap=w'.heap→X w args→X w' args)
  (own:ownKnob C.prog.godebug=none) (started:os.Started) (noInit:C.prog.inits.idxOf? f=none) (hfn:C.prog.funcs[f]?=some fn)
  (witness:∃ (w:World) (tape:Tape) (i:Input),w.os=os∧(w.forCall tape i).Shaped C.prog∧i.vars=[]∧Input.okWide C.prog (w.forCall tape i) .any w.heap.size f i ∧
   ((s.pre enc0 C.prog fn conds apart (w.forCall tape i).memory i.args∧X (w.forCall tape i).memory i.args)∧sizedMet enc0 C.prog fn (OpenSpec.ofChange s) apart (w.forCall tape i).memory i.args)∧a.holds C.prog (lone (Frame.enter C.prog f i.args .normal) [] (w.forCall tape i)))
  (contract:∀ (W:World) (dC:Nat) (args:Array Value) (ds gs:List (DataW H)) (before:List MemPlace),
   (∀ (j:Nat) t v,fn.params[j]?=some t→args[j]?=some v→Value.okWide C.prog W .any dC t v) →
   DataW.Whole enc0 C.prog fn.params.toList s.vars apart W args.toList ds gs before →
   (DataW.weightsEach C.prog (fn.params.toList++s.plain.varTypes C.prog) (ds++gs)).all (· ≤ reachBytes)=true→X W args→W.ShapedOpen C.prog →
   Calls C.prog f args W fun e W'=>∃ v,e=.returned v∧s.post enc0 C.prog fn apart iY handsOn again W args v W') :
  ReturnsInHanded a C os f .any (fun w args=>(s.pre enc0 C.prog fn conds apart w args∧X w args)∧sizedMet enc0 C.prog fn (OpenSpec.ofChange s) apart w args) (s.post enc0 C.prog fn apart iY handsOn again):=by
 refine returnsInHanded_of_calls own started noInit witness ?_;intro w tape i _ hsh _ hok hpre _;obtain ⟨_,_,_,fn',hfn',_,_,_,_,hval⟩:=hok;have e:fn'=fn:=Option.some.inj (hfn'.symm.trans hfn);subst e;obtain ⟨⟨⟨ds,gs,before,hw,_⟩,hx⟩,hz⟩:=hpre;have hw':=DataW.Whole.of_heap (w':=w.forCall tape i) (by rfl) hw;refine (contract (w.forCall tape i) w.heap.size i.args ds gs before hval hw' (hz.weights hw) (hX _ _ _ (by rfl) hx) hsh).mono fun e W' ⟨v,he,hp⟩ =>?_;subst he;exact ChangeSpec.post_blind hp
end Go.Proofs.YtoffnnjbplgnaaaGreatDoor
namespace Go.Proofs.YtoffnnjbplgnaaaGreatDoor
open Go Go.Abs
open Go.Abs.Enc (enc)
def cD:ah:=default
theorem kJ:I.agg [.agg [.int .i64 0,.int .i64 0],.int .i64 0,.int .i64 0,.int .i64 0,.agg [.int .i64 0,.int .i64 0],.aj ⟨#[]⟩]=enc cD:=rfl
theorem DW{A:ab}{l:List ah} : jK A 8 (enc l)=some (l.map enc):=ki A 8 l rfl
theorem DX{A:ab}{n lo k:Nat}{xs:List ah}(ho:A.o n=some (.box (.agg (xs.map enc))))(hl:lo+k≤xs.length):jK A 8 (.view n [] 8 lo k)=some (((xs.drop lo).take k).map enc):=nc ho hl
theorem gC{k:Nat}{a:ai}{m:Nat} : aC [(k,a)] m=true↔m=k:=by
 constructor
 ·intro h;simp only[aC,aH] at h;split at h
  ·assumption
  ·simp at h
 ·rintro rfl;simp[aC,aH]
theorem Au{A:ab}{k k':Nat}{c c':I}(h1:A.o k=some (.box c))(h2:∀ p,c.only p=true)(h1':A.o k'=some (.box c'))(h2':∀ p,c'.only p=true):∀ n x,aH [(k,.box c),(k',.box c')] n=some x→A.o n=some x∧x.only (aC [(k,.box c),(k',.box c')])=true∧x.eh=true:=fun n x h=>by
 simp only[aH] at h;split at h
 ·rename_i hn;subst hn;simp only[v6] at h;subst h;exact ⟨h1,h2 _,rfl⟩
 ·split at h
  ·rename_i hn;subst hn;simp only[v6] at h;subst h;exact ⟨h1',h2' _,rfl⟩
  ·cases h
theorem fW(p:Nat→Bool)(l:List ah):(I.agg (l.map enc)).only p=true:=by simp only[I.only];exact pU p l
def eT(k:Nat)(l:List ah)(m:Nat):List (Nat×ai):=[(k,.box (.agg ((l++List.replicate m cD).map enc)))]
def qY(l:List ah):b6:=fun r os'=>(l=[]∧(r=.nils 8∨r=.c0 8)∧os'=[])∨(l≠[]∧∃ m,r=.view 7 [] 8 0 l.length∧os'=eT 7 l m)
theorem xe(l:List ah)(hl:l.length≤1000):eL Tryz.prog 93 [enc l] [] (qY l):=by
 refine eL.bN Tryz.func93 yR yW zc (t8 rfl) (t8 rfl) (fun m hm=>by simp[aC,aH] at hm) (fun hwf W0 bH E1 =>?_);simp only[tV,vN,bD];refine .dP (by decide +kernel) fun K hK =>?_;simp only[uT,ba];refine .done (hK _ ?_);clear hK K;refine U.seq (U.seq ?_);by_cases hn:l=[]
 ·subst hn;refine .gV (by decide +kernel) fun K hK =>?_;simp only[pw,ba,Nat.reduceEqDiff,reduceIte];simp only[td,List.isEmpty_nil,n9];refine .any rfl fun b _ =>?_
  try simp only[ba]
  generalize (b==0)=t;cases t
  ·refine .done (hK _ ?_);clear hK K;try simp only[cQ]
   refine U.gD ?_;simp only[ay,ba,Nat.reduceEqDiff,reduceIte];refine ⟨fun h =>?_,fun h =>?_⟩
   ·cases h
   refine U.skip ?_;try simp only[cQ]
   refine .dP (by decide +kernel) fun K hK =>?_;simp only[px,ba]
   try simp only[hZ,kJ,ba,Nat.reduceEqDiff,reduceIte]
   refine .done (hK _ ?_);clear hK K;refine U.ret ?_;simp only[jG];exact ⟨[],[.c0 8],u1,⟨⟨.c0 8,rfl,.inl ⟨rfl,rfl,rfl⟩⟩,trivial⟩,.inl ⟨rfl,.inr rfl,rfl⟩⟩
  ·refine .done (hK _ ?_);clear hK K;refine U.gD ?_;simp only[ay,ba,Nat.reduceEqDiff,reduceIte];refine ⟨fun h =>?_,fun h =>?_⟩
   ·refine .dP (by decide +kernel) fun K hK =>?_;simp only[uU,ba];refine .done (hK _ ?_);clear hK K;refine U.ret ?_;simp only[cQ,jG];exact ⟨[],[.nils 8],u1,⟨⟨.nils 8,rfl,.inl ⟨rfl,rfl,rfl⟩⟩,trivial⟩,.inl ⟨rfl,.inl rfl,rfl⟩⟩
   ·cases h
 ·have hu:iN (enc l)=false:=by rw[td];simpa using hn
  refine .gV (by decide +kernel) fun K hK =>?_;simp only[pw,ba,Nat.reduceEqDiff,reduceIte]
  try simp only[hu,Bj _ l hn,ba]
  refine .done (hK _ ?_);clear hK K;try simp only[cQ]
  refine U.gD ?_;simp only[ay,ba,Nat.reduceEqDiff,reduceIte];refine ⟨fun h =>?_,fun h =>?_⟩
  ·cases h
  refine U.skip ?_;try simp only[cQ]
  refine .dP (by decide +kernel) fun K hK =>?_;simp only[px,ba]
  try simp only[hZ,kJ,ba,Nat.reduceEqDiff,reduceIte]
  refine aX.tG cD rfl hn rfl (by omega) (by simp only[maxLen];omega) fun m =>?_
  try simp only[ba,Nat.reduceEqDiff,reduceIte]
  refine .done (hK _ ?_);clear hK K;refine U.ret ?_;simp only[jG];exact ⟨eT 7 l m,[.view 7 [] 8 0 l.length],nQ rfl (fun p=>fW p _),⟨⟨_,rfl,.inl ⟨rfl,rfl,rfl⟩⟩,trivial⟩,.inr ⟨hn,m,rfl,rfl⟩⟩
def fU(l:List ah)(i:Nat)(g:ah):List ah:=l.take i++g::l.drop i
theorem Ub{l:List ah}{i:Nat}(g:ah)(h:i≤l.length):(fU l i g).length=l.length+1:=by
 simp only[fU,Z1,Z6,zz4,List.length_drop];omega
def AD(l:List ah)(i:Nat)(g:ah)(k:Nat):b6:=fun r os' =>
 (∃ q,r=.view 1000000 [] 8 0 (l.length+1)∧os'=eT 1000000 (fU l i g) q)∨∃ d q,(d=25∨d=40)∧r=.view d [] 8 0 (l.length+1)∧os'=eT d (fU l i g) q++eT 1000000 l k
theorem UN(l:List ah)(i q:Nat)(g:ah)(h:i<l.length)(xs:List ah)(hx:xs=l.take i++(List.replicate (l.length+1-i) cD++List.replicate q cD))(ys:List ah)(hy:ys=xs.take i++([g].take 1++xs.drop (i+1))) :
  ys.take (i+1)++((((l++List.replicate 0 cD).drop i).take (l.length-i)).take (l.length-i)++ys.drop (i+1+(l.length-i)))=fU l i g++List.replicate q cD:=by
 have e1:xs.take i=l.take i:=by rw[hx,List.take_append_of_le_length (by rw[Z6];omega),List.take_take,Nat.min_self]
 have e2:xs.drop (i+1)=List.replicate (l.length-i+q) cD:=by
  have hl:(l.take i).length=i:=by rw[Z6];omega
  rw[hx,List.replicate_append_replicate,List.drop_append,hl,List.drop_eq_nil_of_le (by rw[hl];omega),zz2,List.drop_replicate]
  congr 1;omega
 have e3:ys=(l.take i++[g])++List.replicate (l.length-i+q) cD:=by rw[hy,e1,e2];simp
 have hl2:(l.take i++[g]).length=i+1:=by rw[Z1,Z6];simp;omega
 have e4:ys.take (i+1)=l.take i++[g]:=by rw[e3,←hl2,zy7]
 have e5:ys.drop (i+1+(l.length-i))=List.replicate q cD:=by
  rw[e3,List.drop_append,hl2,List.drop_eq_nil_of_le (by rw[hl2];omega),zz2,List.drop_replicate]
  congr 1;omega
 have e6:(((l++List.replicate 0 cD).drop i).take (l.length-i)).take (l.length-i)=l.drop i:=by
  rw[List.replicate_zero,zy6,List.take_take,Nat.min_self,List.take_of_length_le (by rw[List.length_drop];omega)]
 rw[e4,e5,e6];simp[fU]
theorem UM(l:List ah)(i k:Nat)(g:ah)(h:i<l.length)(hk:1≤k)(xs:List ah)(hx:xs=l++List.replicate k cD)(ys:List ah)(hy:ys=xs.take (i+1)++(((xs.drop i).take (l.length+1-i)).take (l.length-i)++xs.drop (i+1+(l.length-i)))) :
  ys.take i++([g].take 1++ys.drop (i+1))=fU l i g++List.replicate (k-1) cD:=by
 have e1:((xs.drop i).take (l.length+1-i)).take (l.length-i)=l.drop i:=by
  rw[List.take_take,Nat.min_eq_left (by omega),hx,List.drop_append_of_le_length (by omega),List.take_append_of_le_length (by rw[List.length_drop];omega),List.take_of_length_le (by rw[List.length_drop];omega)]
 have e2:xs.drop (i+1+(l.length-i))=List.replicate (k-1) cD:=by
  rw[hx,List.drop_append,List.drop_eq_nil_of_le (by omega),zz2,List.drop_replicate]
  congr 1;omega
 have hl:(xs.take (i+1)).length=i+1:=by rw[Z6,hx,Z1];omega
 have e3:ys.take i=l.take i:=by
  rw[hy,List.take_append_of_le_length (by omega),List.take_take,Nat.min_eq_left (by omega),hx,List.take_append_of_le_length (by omega)]
 have e4:ys.drop (i+1)=l.drop i++List.replicate (k-1) cD:=by
  rw[hy,e1,e2];exact List.drop_left' hl
 rw[e3,e4];simp[fU]
theorem EB(l:List ah)(i:Nat)(g:ah)(k:Nat)(hi:i≤l.length)(hn:l≠[])(hlen:l.length≤1000) :
  eL Tryz.prog 101 [.view 1000000 [] 8 0 l.length,enc (i:Int),enc [g]] (eT 1000000 l k) (AD l i g k):=by
 refine eL.bN Tryz.func101 tW tY uf (t8 rfl) (t8 rfl) (fun m hm=>by rw[gC.1 hm];exact Z5 _) (fun hwf W0 bH E1 =>?_);simp only[qT,sF,bD,Z9,Nat.reduceAdd];simp only[eT];have hl0:0<l.length:=List.length_pos_iff.2 hn;have htot:((l++List.replicate k cD).map (enc (α:=ah))).length=l.length+k:=by simp
 refine .dP (by decide +kernel) fun K hK =>?_;simp only[rA,ba];refine .done (hK _ ?_);clear hK K;obtain ⟨y,hy⟩:=Xz (n:=1000000) (p:=[]) (sz:=8) hi (show l.length≤l.length+k by omega);refine .dP (by decide +kernel) fun K hK =>?_;simp only[rB,ba,Nat.reduceEqDiff,reduceIte]
 try simp only[hZ,htot,zz3,hy,ba,reduceIte]
 refine .done (hK _ ?_);clear hK K;refine .dP (by decide +kernel) fun K hK =>?_;simp only[rC,ba,Nat.reduceEqDiff,reduceIte]
 try simp only[typR,iO,jC,iF,ba,Nat.reduceEqDiff,reduceIte,Int.reduceBNe,Int.reduceBEq]
 refine .done (hK _ ?_);clear hK K;refine U.seq (U.seq ?_);refine .gV (by decide +kernel) fun K hK =>?_;simp only[rD,ba,Nat.reduceEqDiff,reduceIte]
 try simp only[typR,iO,jC,iF,ba,Nat.reduceEqDiff,reduceIte,Int.reduceBNe,Int.reduceBEq]
 refine .done (hK _ ?_);clear hK K;try simp only[cQ]
 refine U.gD ?_;simp only[ay,ba,Nat.reduceEqDiff,reduceIte];refine ⟨fun h =>?_,fun h =>?_⟩
 ·first | cases h | simp at h
 refine U.skip ?_;try simp only[cQ]
 refine .dP (by decide +kernel) fun K hK =>?_;simp only[rE,ba,Nat.reduceEqDiff,reduceIte]
 try simp only[hZ,ba,Nat.reduceEqDiff,reduceIte]
 refine .done (hK _ ?_);clear hK K;refine U.seq (U.seq ?_);refine .gV (by decide +kernel) fun K hK =>?_;simp only[rF,ba,Nat.reduceEqDiff,reduceIte]
 try simp only[typR,iO,jC,iF,ba,Nat.reduceEqDiff,reduceIte,Int.reduceBNe,Int.reduceBEq]
 refine .done (hK _ ?_);clear hK K;try simp only[cQ]
 have hA:∀ ts,(aw ts [(1000000,.box (.agg ((l++List.replicate k cD).map (enc (α:=ah)))))]).o 1000000=some (.box (.agg ((l++List.replicate k cD).map enc))):=fun _=>rfl;have hN:∀ ts (d:Nat),d≠1000000→(aw ts [(1000000,.box (.agg ((l++List.replicate k cD).map (enc (α:=ah)))))]).o d=none:=fun ts d hd=>by
  have:¬ d=1000000:=hd;simp[aw,aH,this]
 refine U.gD ?_;simp only[ay,ba,Nat.reduceEqDiff,reduceIte];refine ⟨fun h =>?_,fun h =>?_⟩
 ·have hil:i=l.length:=by
   have:(i:Int)=l.length:=by simpa using h
   omega
  subst hil;by_cases hk:k=0
  ·subst hk;refine .dP (by decide +kernel) fun K hK =>?_;simp only[pt,ba,Nat.reduceEqDiff,reduceIte]
   try simp only[kJ]
   refine aX.FJ (esz:=8) cD rfl (xs:=l++List.replicate 0 cD) (ys:=[g]) (by simp) (hA _) (by simp) (by simp) (hN _ 25 (by decide)) (by simp;omega) (by simp[maxLen];omega) fun q =>?_;have hc:(l++List.replicate 0 cD).take l.length++([g]++List.replicate q cD)=fU l l.length g++List.replicate q cD:=by simp[fU]
   rw[hc]
   try simp only[List.length_singleton,ba,Nat.reduceEqDiff,reduceIte]
   refine .done (hK _ ?_);clear hK K;refine U.ret ?_;simp only[cQ,jG];exact ⟨eT 25 (fU l l.length g) q++eT 1000000 l 0,[.view 25 [] 8 0 (l.length+1)],Au rfl (fun p=>fW p _) rfl (fun p=>fW p _),⟨⟨_,rfl,.inl ⟨rfl,rfl,rfl⟩⟩,trivial⟩,.inr ⟨25,q,.inl rfl,rfl,rfl⟩⟩
  ·refine .dP (by decide +kernel) fun K hK =>?_;simp only[pt,ba,Nat.reduceEqDiff,reduceIte]
   try simp only[kJ]
   rw[xp (esz:=8) _ rfl (xs:=l++List.replicate k cD) (ys:=[g]) (by simp) (hA _) (by simp;omega)];have hc:(l++List.replicate k cD).take l.length++([g]++(l++List.replicate k cD).drop (l.length+[g].length))=fU l l.length g++List.replicate (k-1) cD:=by
    simp[fU,List.drop_append]
   rw[hc]
   try simp only[List.length_singleton,ba,Nat.reduceEqDiff,reduceIte]
   refine .done (hK _ ?_);clear hK K;refine U.ret ?_;simp only[cQ,jG];exact ⟨eT 1000000 (fU l l.length g) (k-1),[.view 1000000 [] 8 0 (l.length+1)],nQ rfl (fun p=>fW p _),⟨⟨_,rfl,.inl ⟨rfl,rfl,rfl⟩⟩,trivial⟩,.inl ⟨k-1,rfl,rfl⟩⟩
 have hlt:i<l.length:=by
  have:¬ (i:Int)=l.length:=by simpa using h
  omega
 refine U.skip ?_;try simp only[cQ]
 refine U.seq (U.seq ?_);refine .gV (by decide +kernel) fun K hK =>?_;simp only[Ac,ba,Nat.reduceEqDiff,reduceIte]
 try simp only[Vp,List.length_singleton,ba,Nat.reduceEqDiff,reduceIte]
 rw[HI (xs:=l++List.replicate k cD) (hA _)]
 try simp only[ba,Nat.reduceEqDiff,reduceIte]
 rw[dU _ (by simp;omega) (by simp;omega)];refine .done (hK _ ?_);clear hK K;try simp only[cQ]
 have hgt:decide ((((l++List.replicate k cD).length-0:Nat):Int)<(l.length:Int)+((1:Nat):Int))=decide (k=0):=by
  by_cases hk:k=0 <;>simp[hk] <;>omega
 simp only[hgt];by_cases hk:k=0
 ·subst hk;refine U.gD ?_;simp only[ay,ba,Nat.reduceEqDiff,reduceIte];refine ⟨fun h =>?_,fun h =>?_⟩
  ·have htot0:((l++List.replicate 0 cD).map (enc (α:=ah))).length=l.length:=by simp
   refine .dP (by decide +kernel) fun K hK =>?_;simp only[Ad,ba,Nat.reduceEqDiff,reduceIte]
   try simp only[hZ,htot0,zz3,DS (show i≤l.length by omega) hl0,kJ,Vi,ba,Nat.reduceEqDiff,reduceIte]
   rw[dU ((l.length:Int)+((1:Nat):Int)) (by omega) (by omega),dU ((l.length:Int)+((1:Nat):Int)-i) (by omega) (by omega)];have hm:(l.length:Int)+((1:Nat):Int)-i=((l.length+1-i:Nat):Int):=by omega
   rw[hm];refine aX.FT (esz:=8) cD rfl (xs:=l++List.replicate 0 cD) (hA _) (by simp;omega) (by omega) (by simp;omega) (hN _ 40 (by decide)) (by omega) (by simp only[maxLen];omega) fun q =>?_;obtain ⟨xs,hxs⟩:∃ xs,xs=l.take i++(List.replicate (l.length+1-i) cD++List.replicate q cD):=⟨_,rfl⟩
   have hxs':(l++List.replicate 0 cD).take i++(List.replicate (l.length+1-i) cD++List.replicate q cD)=xs:=by rw[hxs,List.take_append_of_le_length (by omega)]
   have hxl:xs.length=l.length+1+q:=by rw[hxs];simp;omega
   have hle:i+(l.length+1-i)=l.length+1:=by omega
   rw[hxs',hle]
   try simp only[ba,Nat.reduceEqDiff,reduceIte]
   refine .done (hK _ ?_);clear hK K;have hxm:(xs.map (enc (α:=ah))).length=l.length+1+q:=by rw[Z2];exact hxl
   have hA2:∀ ts,(aw ts [(40,.box (.agg (xs.map (enc (α:=ah))))),(1000000,.box (.agg ((l++List.replicate 0 cD).map (enc (α:=ah)))))]).o 40=some (.box (.agg (xs.map enc))):=fun _=>rfl;refine .dP (by decide +kernel) fun K hK =>?_;simp only[zX,ba,Nat.reduceEqDiff,reduceIte]
   try simp only[hZ,hxm,zz3,lR (show i≤l.length+1 by omega) (show l.length+1≤l.length+1+q by omega) (show i<l.length+1+q by omega),lJ,ba,Nat.reduceEqDiff,reduceIte]
   rw[DW,nF (xs:=xs) (c:=1) (hA2 _) (by omega) (by simp;omega)];obtain ⟨ys,hys⟩:∃ ys,ys=xs.take i++([g].take 1++xs.drop (i+1)):=⟨_,rfl⟩
   have hyl:ys.length=l.length+1+q:=by rw[hys];simp;omega
   rw[←hys]
   try simp only[ba]
   refine .done (hK _ ?_);clear hK K;have hym:(ys.map (enc (α:=ah))).length=l.length+1+q:=by rw[Z2];exact hyl
   have hA3:∀ ts z,(aw ts [(40,.box (.agg (ys.map (enc (α:=ah))))),(40,z),(1000000,.box (.agg ((l++List.replicate 0 cD).map (enc (α:=ah)))))]).o 40=some (.box (.agg (ys.map enc))):=fun _ _=>rfl;have hA4:∀ ts z,(aw ts [(40,.box (.agg (ys.map (enc (α:=ah))))),(40,z),(1000000,.box (.agg ((l++List.replicate 0 cD).map (enc (α:=ah)))))]).o 1000000=some (.box (.agg ((l++List.replicate 0 cD).map enc))):=fun _ _=>rfl;refine .dP (by decide +kernel) fun K hK =>?_;simp only[zY,ba,Nat.reduceEqDiff,reduceIte];rw[dU ((i:Int)+((1:Nat):Int)) (by omega) (by omega)];have hi1:(i:Int)+((1:Nat):Int)=((i+1:Nat):Int):=by omega
   try simp only[hZ,hym,htot0,hi1,zz3,Y1,lR (show i+1≤l.length+1 by omega) (show l.length+1≤l.length+1+q by omega) (show i+1<l.length+1+q by omega),lR (show i≤l.length by omega) (Z5 l.length) hlt,lJ,ba,Nat.reduceEqDiff,reduceIte]
   have hd1:l.length+1-(i+1)=l.length-i:=by omega
   rw[hd1,DX (xs:=l++List.replicate 0 cD) (hA4 _ _) (by simp;omega),nF (xs:=ys) (c:=l.length-i) (hA3 _ _) (by omega) (by simp)];rw[UN l i q g hlt xs hxs ys hys]
   try simp only[ba]
   refine .done (hK _ ?_);clear hK K;refine .dP (by decide +kernel) fun K hK =>?_;simp only[zZ,ba,Nat.reduceEqDiff,reduceIte];refine .done (hK _ ?_);clear hK K;refine U.ret ?_;simp only[cQ,jG];exact ⟨eT 40 (fU l i g) q++eT 1000000 l 0,[.view 40 [] 8 0 (l.length+1)],Au rfl (fun p=>fW p _) rfl (fun p=>fW p _),⟨⟨_,rfl,.inl ⟨rfl,rfl,rfl⟩⟩,trivial⟩,.inr ⟨40,q,.inr rfl,rfl,rfl⟩⟩
  ·simp at h
 ·refine U.gD ?_;simp only[ay,ba,Nat.reduceEqDiff,reduceIte];refine ⟨fun h =>?_,fun h =>?_⟩
  ·simp at h;omega
  refine U.skip ?_;try simp only[cQ]
  have hk1:1≤k:=by omega
  have hn1:(l.length:Int)+((1:Nat):Int)=((l.length+1:Nat):Int):=by omega
  refine .dP (by decide +kernel) fun K hK =>?_;simp only[z6,ba,Nat.reduceEqDiff,reduceIte];rw[dU ((l.length:Int)+((1:Nat):Int)) (by omega) (by omega)]
  try simp only[hZ,htot,hn1,zz3,DS (show l.length+1≤l.length+k by omega) (show 0<l.length+k by omega),ba,Nat.reduceEqDiff,reduceIte]
  refine .done (hK _ ?_);clear hK K;have hi1:(i:Int)+((1:Nat):Int)=((i+1:Nat):Int):=by omega
  have hd1:l.length+1-(i+1)=l.length-i:=by omega
  refine U.seq (U.seq ?_);refine .gV (by decide +kernel) fun K hK =>?_;simp only[z7,ba,Nat.reduceEqDiff,reduceIte];rw[dU ((i:Int)+((1:Nat):Int)) (by omega) (by omega)]
  try simp only[hZ,htot,hi1,hd1,zz3,lR (show i+1≤l.length+1 by omega) (show l.length+1≤l.length+k by omega) (show i+1<l.length+k by omega),VT,ba,Nat.reduceEqDiff,reduceIte]
  refine .ext (.bool false) rfl (X1 (tS:=23) (tR:=4) (e:=50) Tryz.func143 (by kernel_rfl) (by kernel_rfl) (by kernel_rfl) (by kernel_rfl) (by kernel_rfl) (by kernel_rfl) (hA _) rfl ?_ (by decide) (Lv (by intro h;have:=congrArg List.length h;rw[Z1,List.length_replicate,zy1] at this;omega) rfl)) ?_
  ·show I.sizes ((l++List.replicate k cD).map enc)≠0
   rw[I.fY (sz:=8) _ (fun e he=>by obtain ⟨x,_,rfl⟩:=zz1.1 he;rw[lA];rfl)];rw[htot];omega
  try simp only[ba,Nat.reduceEqDiff,reduceIte]
  refine .done (hK _ ?_);clear hK K;try simp only[cQ]
  refine U.gD ?_;simp only[ay,ba,Nat.reduceEqDiff,reduceIte];refine ⟨fun h =>?_,fun h =>?_⟩
  case neg.refine_2.refine_2.refine_2=>cases h
  have hd2:l.length+1-i=l.length+1-i:=rfl;obtain ⟨xs,hxs⟩:∃ xs,xs=l++List.replicate k cD:=⟨_,rfl⟩
  have hxl:xs.length=l.length+k:=by rw[hxs];simp
  have hxm:(xs.map (enc (α:=ah))).length=l.length+k:=by rw[Z2];exact hxl
  rw[←hxs];have hB:∀ ts,(aw ts [(1000000,.box (.agg (xs.map (enc (α:=ah)))))]).o 1000000=some (.box (.agg (xs.map enc))):=fun _=>rfl;refine .dP (by decide +kernel) fun K hK =>?_;simp only[z8,ba,Nat.reduceEqDiff,reduceIte];rw[dU ((i:Int)+((1:Nat):Int)) (by omega) (by omega)]
  try simp only[hZ,hxm,hi1,hd1,zz3,Y1,lR (show i+1≤l.length+1 by omega) (show l.length+1≤l.length+k by omega) (show i+1<l.length+k by omega),lR (show i≤l.length+1 by omega) (show l.length+1≤l.length+k by omega) (show i<l.length+k by omega),lJ,ba,Nat.reduceEqDiff,reduceIte]
  rw[DX (xs:=xs) (hB _) (by omega),nF (xs:=xs) (c:=l.length-i) (hB _) (by omega) (by simp;omega)];obtain ⟨ys,hys⟩:∃ ys,ys=xs.take (i+1)++(((xs.drop i).take (l.length+1-i)).take (l.length-i)++xs.drop (i+1+(l.length-i))):=⟨_,rfl⟩
  have hyl:ys.length=l.length+k:=by rw[hys];simp;omega
  have hym:(ys.map (enc (α:=ah))).length=l.length+k:=by rw[Z2];exact hyl
  rw[←hys]
  try simp only[ba]
  refine .done (hK _ ?_);clear hK K;have hC:∀ ts z,(aw ts [(1000000,.box (.agg (ys.map (enc (α:=ah))))),(1000000,z)]).o 1000000=some (.box (.agg (ys.map enc))):=fun _ _=>rfl;refine .dP (by decide +kernel) fun K hK =>?_;simp only[Aa,ba,Nat.reduceEqDiff,reduceIte]
  try simp only[hZ,hym,zz3,lR (show i≤l.length+1 by omega) (show l.length+1≤l.length+k by omega) (show i<l.length+k by omega),lJ,ba,Nat.reduceEqDiff,reduceIte]
  rw[DW,nF (xs:=ys) (c:=1) (hC _ _) (by omega) (by simp;omega)];rw[UM l i k g hlt hk1 xs hxs ys hys]
  try simp only[ba]
  refine .done (hK _ ?_);clear hK K;refine .dP (by decide +kernel) fun K hK =>?_;simp only[Ab,ba,Nat.reduceEqDiff,reduceIte];refine .done (hK _ ?_);clear hK K;refine U.ret ?_;simp only[cQ,jG];exact ⟨eT 1000000 (fU l i g) (k-1),[.view 1000000 [] 8 0 (l.length+1)],nQ rfl (fun p=>fW p _),⟨⟨_,rfl,.inl ⟨rfl,rfl,rfl⟩⟩,trivial⟩,.inl ⟨k-1,rfl,rfl⟩⟩
def gi(a b:Int):Int:=if a<b then -1 else if a>b then 1 else 0
def lz(a b:Item):Int:=if gi a.bd b.bd≠0 then gi a.bd b.bd else gi a.no b.no
def eV(a b:Item):Bool:=decide (a.bd<b.bd∨(a.bd=b.bd∧a.no<b.no))
theorem y5(a b:Int):(a<b∧gi a b=-1)∨(a=b∧gi a b=0)∨(b<a∧gi a b=1):=by
 simp only[gi]
 (repeat' split) <;>omega
theorem y7(a b:Item):(eV a b=true∧lz a b=-1)∨(a=b∧lz a b=0)∨(eV b a=true∧lz a b=1):=by
 obtain ⟨m,n⟩:=a;obtain ⟨m',n'⟩:=b;simp only[lz,eV,decide_eq_true_eq,Item.mk.injEq];rcases y5 m m' with ⟨h,e⟩ | ⟨h,e⟩ | ⟨h,e⟩ <;>rw[e]
 ·simp;omega
 ·rcases y5 n n' with ⟨h2,e2⟩ | ⟨h2,e2⟩ | ⟨h2,e2⟩ <;>rw[e2] <;>simp <;>omega
 ·simp;omega
theorem oW(a:Item):eV a a=false:=by simp only[eV,decide_eq_false_iff_not];omega
theorem tL{a b c:Item}(h:eV a b=true)(k:eV b c=true):eV a c=true:=by
 simp only[eV,decide_eq_true_eq] at *;omega
theorem IX(a b:Item):decide (lz a b<0)=eV a b:=by
 rcases y7 a b with ⟨h,e⟩ | ⟨rfl,e⟩ | ⟨h,e⟩
 ·rw[e,h];rfl
 ·rw[e,oW];rfl
 ·rw[e];cases k:eV a b
  ·rfl
  ·have:=tL k h;rw[oW] at this;cases this
theorem IY(a b:Item):(lz a b==0)=decide (a=b):=by
 rcases y7 a b with ⟨h,e⟩ | ⟨rfl,e⟩ | ⟨h,e⟩
 ·rw[e,decide_eq_false (fun k=>by rw[k,oW] at h;cases h)];rfl
 ·rw[e];simp
 ·rw[e,decide_eq_false (fun k=>by rw[k,oW] at h;cases h)];rfl
theorem w0(n:Int):aQ Tryz.prog 175 [enc n] (enc false):=by
 refine aQ.bN Tryz.func175 G1 H9 Jo (t8 rfl) (fun hwf W0 bH E1 =>?_);simp only[c175,Cr,bD];clear hwf;have q:(n != n)=false:=by simp
 have R:=y6 @q aE
 repeat' ((first |refine U.aI (by decide +kernel) rfl fun K hK =>?_|(refine .aF [0,2] hK ?_;clear hK K)|(with_reducible refine .done (hK _ ?_);clear hK K)|refine U.of rfl ?_|(with_reducible refine ay.aG (fun h =>?_) (fun h =>?_) <;>try simp only[h])) <;>try simp only[aJ,R,simprocAttr])
 all_goals clear R
 all_goals rfl
theorem wZ(a b:Int):aQ Tryz.prog 161 [enc a,enc b] (enc (gi a b)):=by
 refine aQ.bN Tryz.func161 GZ H6 Jl (t8 rfl) (fun hwf W0 bH E1 =>?_);simp only[x9,Co,bD,Z9];clear hwf;have f1:=w0 a;have f2:=w0 b;simp only[gi];cases q1:decide (a<b)
 ·rw[if_neg (of_decide_eq_false q1)];cases q2:decide (a>b)
  ·rw[if_neg (of_decide_eq_false q2)];have R:=y6 @q1 (y6 @q2 aE)
   repeat' ((first |refine U.aI (by decide +kernel) rfl fun K hK =>?_|refine .flat _ (f1) rfl ?_|refine .flat _ (f2) rfl ?_|(refine .aF [0,1,4,5,6,11,12,13,16,19] hK ?_;clear hK K)|(with_reducible refine .done (hK _ ?_);clear hK K)|refine U.of rfl ?_|(with_reducible refine ay.aG (fun h =>?_) (fun h =>?_) <;>try simp only[h])) <;>try simp only[aJ,R,simprocAttr])
   all_goals clear R
   all_goals rfl
  ·rw[if_pos (of_decide_eq_true q2)];have R:=y6 @q1 (y6 @q2 aE)
   repeat' ((first |refine U.aI (by decide +kernel) rfl fun K hK =>?_|refine .flat _ (f1) rfl ?_|refine .flat _ (f2) rfl ?_|(refine .aF [0,1,4,5,6,11,12,13,16,19] hK ?_;clear hK K)|(with_reducible refine .done (hK _ ?_);clear hK K)|refine U.of rfl ?_|(with_reducible refine ay.aG (fun h =>?_) (fun h =>?_) <;>try simp only[h])) <;>try simp only[aJ,R,simprocAttr])
   all_goals clear R
   all_goals rfl
 ·rw[if_pos (of_decide_eq_true q1)];have R:=y6 @q1 aE
  repeat' ((first |refine U.aI (by decide +kernel) rfl fun K hK =>?_|refine .flat _ (f1) rfl ?_|refine .flat _ (f2) rfl ?_|(refine .aF [0,1,4,5,6,11,12,13,16,19] hK ?_;clear hK K)|(with_reducible refine .done (hK _ ?_);clear hK K)|refine U.of rfl ?_|(with_reducible refine ay.aG (fun h =>?_) (fun h =>?_) <;>try simp only[h])) <;>try simp only[aJ,R,simprocAttr])
  all_goals clear R
  all_goals rfl
theorem EU(a b:Int):aQ Tryz.prog 160 [enc [a,b]] (enc (if a≠0 then a else b)):=by
 refine aQ.bN Tryz.func160 GY H5 Jk (t8 rfl) (fun hwf W0 bH E1 =>?_);simp only[x8,Cn,bD];clear hwf;have h0:∀ A,iI A 1 ((0:Nat):Int) (enc [a,b])=some (.ref (enc a)):=fun A=>fm (A:=A) (l:=[a,b]) (k:=0) 1 (by simp) rfl;have h1:∀ A,iI A 1 ((1:Nat):Int) (enc [a,b])=some (.ref (enc b)):=fun A=>fm (A:=A) (l:=[a,b]) (k:=1) 1 (by simp) rfl;have hl:([a,b]:List Int).length=2:=rfl;obtain ⟨l,hll⟩:∃ l,l=[a,b]:=⟨_,rfl⟩
 rw[←hll] at h0 h1 hl ⊢;have R:=aE
 repeat' ((first |refine U.aI (by decide +kernel) rfl fun K hK =>?_|(refine .aF [0,2,3,5,6,7,8,9,14] hK ?_;clear hK K)|(with_reducible refine .done (hK _ ?_);clear hK K)|refine U.of rfl ?_|(with_reducible refine ay.aG (fun h =>?_) (fun h =>?_) <;>try simp only[h])) <;>try simp only[aJ,R,simprocAttr])
 all_goals clear R
 refine U.loop (fun i:Nat=>aw [(0,enc l),(3,.int .i64 0),(6,enc l),(7,.int .i64 (l.length:Int)),(8,.int .i64 (i:Int))] []) (fun i=>i≤2∧(0<i→a=0)∧(1<i→b=0)) (fun i=>2-i) 0 ⟨by omega,by omega,by omega⟩ ?_ ?_
 ·refine bx.cJ ?_ ?_ ?_ ?_ <;>simp[cg,cq,cn,bP,cd,I.only,bG]
  all_goals rfl
 rintro i ⟨hi,k0,k1⟩;have hw:=ez (i:=i) (by omega);by_cases e0:i=0
 ·have hc:=eR (show i<l.length by omega);have he:∀ A,iI A 1 (i:Int) (enc l)=some (.ref (enc a)):=fun A=>by rw[e0];exact h0 A
  cases q:(a != 0)
  ·have R:=y6 @hc (y6 @he (y6 @q (y6 @hw aE)))
   repeat' ((first |refine U.aI (by decide +kernel) rfl fun K hK =>?_|(refine .aF [0,2,3,5,6,7,8,9,14] hK ?_;clear hK K)|(with_reducible refine .done (hK _ ?_);clear hK K)|refine U.of rfl ?_|(with_reducible refine ay.aG (fun h =>?_) (fun h =>?_) <;>try simp only[h])) <;>try simp only[aJ,R,simprocAttr])
   all_goals clear R
   refine ⟨i+1,⟨by omega,fun _=>by simpa using q,by omega⟩,by omega,?_⟩;refine bx.cJ ?_ ?_ ?_ ?_ <;>simp[cg,cq,cn,bP,cd,I.only,bG]
   all_goals rfl
  ·have ha:a≠0:=by simpa using q
   rw[if_pos ha];have R:=y6 @hc (y6 @he (y6 @q (y6 @hw aE)))
   repeat' ((first |refine U.aI (by decide +kernel) rfl fun K hK =>?_|(refine .aF [0,2,3,5,6,7,8,9,14] hK ?_;clear hK K)|(with_reducible refine .done (hK _ ?_);clear hK K)|refine U.of rfl ?_|(with_reducible refine ay.aG (fun h =>?_) (fun h =>?_) <;>try simp only[h])) <;>try simp only[aJ,R,simprocAttr])
   all_goals clear R
   all_goals rfl
 have ha:¬ a≠0:=fun h=>h (k0 (by omega));by_cases e1:i=1
 ·have hc:=eR (show i<l.length by omega);have he:∀ A,iI A 1 (i:Int) (enc l)=some (.ref (enc b)):=fun A=>by rw[e1];exact h1 A
  cases q:(b != 0)
  ·have R:=y6 @hc (y6 @he (y6 @q (y6 @hw aE)))
   repeat' ((first |refine U.aI (by decide +kernel) rfl fun K hK =>?_|(refine .aF [0,2,3,5,6,7,8,9,14] hK ?_;clear hK K)|(with_reducible refine .done (hK _ ?_);clear hK K)|refine U.of rfl ?_|(with_reducible refine ay.aG (fun h =>?_) (fun h =>?_) <;>try simp only[h])) <;>try simp only[aJ,R,simprocAttr])
   all_goals clear R
   refine ⟨i+1,⟨by omega,fun _=>k0 (by omega),fun _=>by simpa using q⟩,by omega,?_⟩;refine bx.cJ ?_ ?_ ?_ ?_ <;>simp[cg,cq,cn,bP,cd,I.only,bG]
   all_goals rfl
  ·rw[if_neg ha];have R:=y6 @hc (y6 @he (y6 @q (y6 @hw aE)))
   repeat' ((first |refine U.aI (by decide +kernel) rfl fun K hK =>?_|(refine .aF [0,2,3,5,6,7,8,9,14] hK ?_;clear hK K)|(with_reducible refine .done (hK _ ?_);clear hK K)|refine U.of rfl ?_|(with_reducible refine ay.aG (fun h =>?_) (fun h =>?_) <;>try simp only[h])) <;>try simp only[aJ,R,simprocAttr])
   all_goals clear R
   all_goals rfl
 have hc:=fk (show ¬ i<l.length by omega);rw[if_neg ha,k1 (by omega)];have R:=y6 @hc aE
 repeat' ((first |refine U.aI (by decide +kernel) rfl fun K hK =>?_|(refine .aF [0,2,3,5,6,7,8,9,14] hK ?_;clear hK K)|(with_reducible refine .done (hK _ ?_);clear hK K)|refine U.of rfl ?_|(with_reducible refine ay.aG (fun h =>?_) (fun h =>?_) <;>try simp only[h])) <;>try simp only[aJ,R,simprocAttr])
 all_goals clear R
 all_goals rfl
theorem EP(a b:Item):aQ Tryz.prog 140 [enc a,enc b] (enc (lz a b)):=by
 refine aQ.bN Tryz.func140 GR H0 Jg (t8 rfl) (fun hwf W0 bH E1 =>?_);simp only[xW,Cj,bD,Z9];clear hwf;have f1:=wZ a.bd b.bd;have f2:=wZ a.no b.no;have f3:=EU (gi a.bd b.bd) (gi a.no b.no);have hbs:gh 1 (some [.int .i64 (gi a.bd b.bd),.int .i64 (gi a.no b.no)])=some (enc [gi a.bd b.bd,gi a.no b.no]):=tQ (ys:=[gi a.bd b.bd,gi a.no b.no]) 1 rfl;have R:=y6 @hbs aE
 repeat' ((first |refine U.aI (by decide +kernel) rfl fun K hK =>?_|refine .flat _ (f1) rfl ?_|refine .flat _ (f2) rfl ?_|refine .flat _ (f3) rfl ?_|(refine .aF [0,1,2,3,4] hK ?_;clear hK K)|(with_reducible refine .done (hK _ ?_);clear hK K)|refine U.of rfl ?_|(with_reducible refine ay.aG (fun h =>?_) (fun h =>?_) <;>try simp only[h])) <;>try simp only[aJ,R,simprocAttr])
 all_goals clear R
 all_goals rfl
theorem wX(x:ah)(a:Item):aQ Tryz.prog 139 [enc x,enc a] (enc (lz x.bB a)):=by
 refine aQ.bN Tryz.func139 GP HY Je (t8 rfl) (fun hwf W0 bH E1 =>?_);simp only[xU,Ch,bD,Z9];clear hwf;have R:=aE
 repeat' ((first |refine U.aI (by decide +kernel) rfl fun K hK =>?_|refine .flat _ (EP x.bB a) rfl ?_|(refine .aF [0,1,2,3,4] hK ?_;clear hK K)|(with_reducible refine .done (hK _ ?_);clear hK K)|refine U.of rfl ?_|(with_reducible refine ay.aG (fun h =>?_) (fun h =>?_) <;>try simp only[h])) <;>try simp only[aJ,R,simprocAttr])
 all_goals clear R
 all_goals rfl
theorem XX(x y:Nat)(h:x+y<9223372036854775807):IntKind.i64.wrap ((x:Int)+(y:Int))=((x+y:Nat):Int):=by rw[dU _ (by omega) (by omega)];omega
theorem XY{n:Nat}(h:n≤9223372036854775807):IntKind.i64.wrap (n:Int)=(n:Int):=dU _ (by omega) (by omega)
theorem vl(x:Nat):Int.fdiv (x:Int) (2^min (Int.toNat 1) IntKind.u64.bits)=((x / 2:Nat):Int):=by
 have:min (Int.toNat 1) IntKind.u64.bits=1:=rfl;rw[this]
 show Int.fdiv (x:Int) 2=_
 rw[Int.fdiv_eq_ediv_of_nonneg _ (by decide)];rfl
theorem Be(x:Nat):Int.fdiv (x:Int) (2^min 1 IntKind.u64.bits)=((x / 2:Nat):Int):=vl x
theorem UW{x:Nat}(h:x<9223372036854775807):IntKind.u64.wrap (x:Int)=(x:Int):=by
 simp only[IntKind.wrap,IntKind.bits,IntKind.signed];simp;omega
theorem Bd:((0:Int)≤1)=True:=by simp
abbrev oP(l:List ah):Prop:=l.Pairwise fun a b=>ny a b=true
def fC(l:List ah)(a:Item):Nat:=l.findIdx fun x => !eV x.bB a
def jZ(l:List ah)(a:Item):Bool:=l.any fun x=>decide (x.bB=a)
theorem Wi(l:List ah)(a:Item):fC l a≤l.length:=List.findIdx_le_length
theorem wy{l:List ah}(h:oP l){i j:Nat}(hij:i<j)(hj:j<l.length):eV (l[i]'(by omega)).bB l[j].bB=true:=List.pairwise_iff_getElem.1 h i j (by omega) hj hij
theorem BT{l:List ah}{a:Item}{i:Nat}(hi:i≤l.length)(h1:∀ k (h:k<l.length),k<i→eV l[k].bB a=true)(h2:∀ h:i<l.length,eV l[i].bB a=false):fC l a=i:=by
 simp only[fC];by_cases hlt:i<l.length
 ·refine (List.findIdx_eq hlt).2 ⟨by rw[h2 hlt];rfl,fun j hj =>?_⟩;rw[h1 j (by omega) hj];rfl
 ·have e:i=l.length:=by omega
  rw[e];refine List.findIdx_eq_length.2 fun x hx =>?_;obtain ⟨k,hk,rfl⟩:=List.getElem_of_mem hx;rw[h1 k hk (by omega)];rfl
theorem Ar{l:List ah}(hs:oP l)(a:Item):jZ l a=true↔∃ h:fC l a<l.length,(l[fC l a]).bB=a:=by
 constructor
 ·intro h;simp only[jZ,List.any_eq_true,decide_eq_true_eq] at h;obtain ⟨x,hx,rfl⟩:=h;obtain ⟨k,hk,rfl⟩:=List.getElem_of_mem hx;have h1:fC l l[k].bB=k:=BT (by omega) (fun j hj hjk=>wy hs hjk hk) (fun _=>oW _);exact ⟨by omega,by simp only[h1]⟩
 ·rintro ⟨h1,h2⟩;simp only[jZ,List.any_eq_true,decide_eq_true_eq];exact ⟨_,List.getElem_mem h1,h2⟩
theorem EO(l:List ah)(a:Item)(hs:oP l)(hl:l.length≤1000):aQ Tryz.prog 138 [enc l,enc a,.func 139 []] (.tuple [enc (fC l a:Int),enc (jZ l a)]):=by
 refine aQ.bN Tryz.func138 GO HX Jd (t8 rfl) (fun hwf W0 bH E1 =>?_);simp only[xT,Cg,bD,Z9,Nat.reduceAdd];clear hwf;have R:=aE
 repeat' ((first |(with_reducible refine .guard (fun hb =>?_) (fun hb =>?_) <;>try simp only[hb])|refine U.aI (by decide +kernel) rfl fun K hK =>?_|(refine .aF [0,1,2,4,6,7,8,9,10,11,17,31] hK ?_;clear hK K)|(with_reducible refine .done (hK _ ?_);clear hK K)|refine U.of rfl ?_|(with_reducible refine ay.aG (fun h =>?_) (fun h =>?_) <;>try simp only[h])) <;>try simp only[aJ,R,simprocAttr])
 all_goals clear R
 refine U.loop (fun s:Nat×Nat=>aw [(0,enc l),(2,.func 139 []),(4,.ptr 4 []),(8,.int .i64 l.length),(9,.int .i64 s.1),(10,.int .i64 s.2)] [(4,.box (enc a))]) (fun s=>s.1≤s.2∧s.2≤l.length∧(∀ k (h:k<l.length),k<s.1→eV l[k].bB a=true)∧∀ k (h:k<l.length),s.2≤k→eV l[k].bB a=false) (fun s=>s.2-s.1) (0,l.length) ⟨Nat.zero_le _,Z5 _,fun k _ hk=>by omega,fun k h1 h2=>by simp only at h2;omega⟩ ?_ ?_
 ·refine bx.cJ ?_ ?_ ?_ ?_ <;>simp[cg,cq,cn,bP,aC,cd,ev,I.only,I.cH,ai.only,bG]
  all_goals rfl
 rintro ⟨i,j⟩ ⟨h1,h2,h3,h4⟩;simp only at h1 h2 h3 h4 ⊢;by_cases hlt:i<j
 ·have hc:=eR hlt;have w1:=XX i j (by omega);have w2:=UW (x:=i+j) (by omega);obtain ⟨h,hh⟩:∃ h,h=(i+j) / 2:=⟨_,rfl⟩
  have w5:=XY (n:=h) (by omega);have hhl:h<l.length:=by omega
  have he:=fun A=>fm (A:=A) 8 hhl rfl;have hn:=IX l[h].bB a;have hw:=ez (i:=h) (by omega);have f139:=wX l[h] a;rcases hb:eV l[h].bB a
  ·rw[hb] at hn;have hlo:∀ k (h':k<l.length),h≤k→eV l[k].bB a=false:=fun k hkl hk=>by
    cases hbk:eV l[k].bB a with
    |false=>rfl
    |true =>
     by_cases e:k=h
     ·subst e;rw[hb] at hbk;cases hbk
     ·have:=tL (wy hs (show h<k by omega) hkl) hbk;rw[this] at hb;cases hb
   clear hb;generalize l[h]=r at *;have R:=y6 @hc (y6 @w1 (y6 @w2 (y6 @w5 (y6 @he (y6 @hn (y6 @hw (y6 @Be (y6 @vl (y6 @Bd (y6 @jU aE))))))))))
   repeat' ((first |(with_reducible refine .guard (fun hb =>?_) (fun hb =>?_) <;>try simp only[hb])|refine U.aI (by decide +kernel) rfl fun K hK =>?_|refine .flat _ (f139) rfl ?_|(refine .aF [0,1,2,4,6,7,8,9,10,11,17,31] hK ?_;clear hK K)|(with_reducible refine .done (hK _ ?_);clear hK K)|refine U.of rfl ?_|(with_reducible refine ay.aG (fun h =>?_) (fun h =>?_) <;>try simp only[h])) <;>try simp only[aJ,R,←hh,Y2,simprocAttr])
   all_goals clear R
   refine ⟨(i,h),⟨by simp only;omega,by simp only;omega,h3,hlo⟩,by simp only;omega,?_⟩;clear hlo;refine bx.cJ ?_ ?_ ?_ ?_ <;>simp[cg,cq,cn,bP,aC,cd,ev,I.only,I.cH,ai.only,bG]
   all_goals rfl
  ·rw[hb] at hn;have hhi:∀ k (h':k<l.length),k<h+1→eV l[k].bB a=true:=fun k hkl hk=>by
    by_cases e:k=h
    ·subst e;exact hb
    ·cases hbk:eV l[k].bB a with
     |true=>rfl
     |false =>
      have:=tL (wy hs (show k<h by omega) hhl) hb;rw[this] at hbk;cases hbk
   clear hb;generalize l[h]=r at *;have R:=y6 @hc (y6 @w1 (y6 @w2 (y6 @w5 (y6 @he (y6 @hn (y6 @hw (y6 @Be (y6 @vl (y6 @Bd (y6 @jU aE))))))))))
   repeat' ((first |(with_reducible refine .guard (fun hb =>?_) (fun hb =>?_) <;>try simp only[hb])|refine U.aI (by decide +kernel) rfl fun K hK =>?_|refine .flat _ (f139) rfl ?_|(refine .aF [0,1,2,4,6,7,8,9,10,11,17,31] hK ?_;clear hK K)|(with_reducible refine .done (hK _ ?_);clear hK K)|refine U.of rfl ?_|(with_reducible refine ay.aG (fun h =>?_) (fun h =>?_) <;>try simp only[h])) <;>try simp only[aJ,R,←hh,Y2,simprocAttr])
   all_goals clear R
   refine ⟨(h+1,j),⟨by simp only;omega,h2,hhi,h4⟩,by simp only;omega,?_⟩;clear hhi;refine bx.cJ ?_ ?_ ?_ ?_ <;>simp[cg,cq,cn,bP,aC,cd,ev,I.only,I.cH,ai.only,bG]
   all_goals rfl
 ·have hij:i=j:=by omega
  subst hij;have hc:=fk hlt;have hp:fC l a=i:=BT h2 h3 fun h=>h4 i h (Z5 _);have hh:=Ar hs a;rw[hp];by_cases hil:i<l.length
  ·have hc2:=eR hil;have he:=fun A=>fm (A:=A) 8 hil rfl;have hz:=IY l[i].bB a;have hhz:jZ l a=decide (l[i].bB=a):=by
    rw[Bool.eq_iff_iff,hh,decide_eq_true_eq];constructor
    ·rintro ⟨_,e⟩;simp only[hp] at e;exact e
    ·intro e;exact ⟨by omega,by simp only[hp];exact e⟩
   have f139:=wX l[i] a;rw[hhz];clear hhz h3 h4;generalize l[i]=r at *;have R:=y6 @hc (y6 @hc2 (y6 @he (y6 @hz (y6 @jU aE))))
   repeat' ((first |(with_reducible refine .guard (fun hb =>?_) (fun hb =>?_) <;>try simp only[hb])|refine U.aI (by decide +kernel) rfl fun K hK =>?_|refine .flat _ (f139) rfl ?_|(refine .aF [0,1,2,4,6,7,8,9,10,11,17,31] hK ?_;clear hK K)|(with_reducible refine .done (hK _ ?_);clear hK K)|refine U.of rfl ?_|(with_reducible refine ay.aG (fun h =>?_) (fun h =>?_) <;>try simp only[h])) <;>try simp only[aJ,R,Y2,simprocAttr])
   all_goals clear R
   all_goals rfl
  ·have hc2:=fk hil;have hhz:jZ l a=false:=by
    cases q:jZ l a
    ·rfl
    ·obtain ⟨h,_⟩:=hh.1 q;omega
   rw[hhz];have R:=y6 @hc (y6 @hc2 aE)
   repeat' ((first |(with_reducible refine .guard (fun hb =>?_) (fun hb =>?_) <;>try simp only[hb])|refine U.aI (by decide +kernel) rfl fun K hK =>?_|(refine .aF [0,1,2,4,6,7,8,9,10,11,17,31] hK ?_;clear hK K)|(with_reducible refine .done (hK _ ?_);clear hK K)|refine U.of rfl ?_|(with_reducible refine ay.aG (fun h =>?_) (fun h =>?_) <;>try simp only[h])) <;>try simp only[aJ,R,simprocAttr])
   all_goals clear R
   all_goals rfl
theorem Fg(l:List ah)(a:Item)(hs:oP l)(hl:l.length≤1000):aQ Tryz.prog 94 [enc (⟨l⟩:iP),enc a] (.tuple [enc (fC l a:Int),enc (jZ l a)]):=by
 have hF:=EO l a hs hl;refine aQ.bN Tryz.func94 Hy II JV (t8 rfl) (fun hwf W0 bH E1 =>?_);simp only[yI,CX,bD,Z9];clear hwf;have R:=aE
 repeat' ((first |refine U.aI (by decide +kernel) rfl fun K hK =>?_|refine .lead _ (hF) ?_|(refine .aF [0,1,2,3,4,5] hK ?_;clear hK K)|(with_reducible refine .done (hK _ ?_);clear hK K)|refine U.of rfl ?_|(with_reducible refine ay.aG (fun h =>?_) (fun h =>?_) <;>try simp only[h])) <;>try simp only[aJ,R,simprocAttr])
 all_goals clear R
 all_goals rfl
def kP(x:ah):List ah→Nat→Int
 | [],_=>-1
 |r::l,i=>if x=r then (i:Int) else kP x l (i+1)
theorem Az(x:ah):∀ (l:List ah) (i:Nat),decide (kP x l i≥0)=decide (x∈l)
 | [],i=>by simp[kP]
 |r::l,i=>by
  rw[kP];by_cases h:x=r
  ·rw[if_pos h];subst h;simp
  ·rw[if_neg h,Az x l (i+1)];simp[h]
theorem ET(l:List ah)(x:ah)(hl:l.length≤4000000000000):aQ Tryz.prog 159 [enc l,enc x] (enc (kP x l 0)):=by
 refine aQ.bN Tryz.func159 GX H4 Jj (t8 rfl) (fun hwf W0 bH E1 =>?_);simp only[xZ,Cm,bD,Z9];clear hwf;have R:=aE
 repeat' ((first |refine U.aI (by decide +kernel) rfl fun K hK =>?_|(refine .aF [0,1,3,4,5,7,8,9,16] hK ?_;clear hK K)|(with_reducible refine .done (hK _ ?_);clear hK K)|refine U.of rfl ?_|(with_reducible refine ay.aG (fun h =>?_) (fun h =>?_) <;>try simp only[h])) <;>try simp only[aJ,R,simprocAttr])
 all_goals clear R
 refine U.loop (fun i:Nat=>aw [(0,enc l),(3,.ptr 3 []),(7,.int .i64 l.length),(8,.int .i64 i)] [(3,.box (enc x))]) (fun i=>i≤l.length∧kP x l 0=kP x (l.drop i) i) (fun i=>l.length-i) 0 ⟨Nat.zero_le _,by simp⟩ ?_ ?_
 ·refine bx.cJ ?_ ?_ ?_ ?_ <;>simp[cg,cq,cn,bP,aC,cd,ev,I.only,ai.only,bG]
  all_goals rfl
 rintro i ⟨hi,heq⟩;rw[heq];by_cases hlt:i<l.length
 ·have hlc:=eR hlt;have he:=fun A=>fm (A:=A) 8 hlt rfl;have hw:=ez (i:=i) (by omega);have hd:=List.drop_eq_getElem_cons hlt;rw[hd,kP] at heq ⊢;generalize l[i]=r at *;by_cases q:x=r
  ·rw[if_pos q];have q1:decide (x=r)=true:=decide_eq_true q;have R:=y6 @hlc (y6 @he (y6 @hw (y6 @q1 aE)))
   repeat' ((first |refine U.aI (by decide +kernel) rfl fun K hK =>?_|(refine .aF [0,1,3,4,5,7,8,9,16] hK ?_;clear hK K)|(with_reducible refine .done (hK _ ?_);clear hK K)|refine U.of rfl ?_|(with_reducible refine ay.aG (fun h =>?_) (fun h =>?_) <;>try simp only[h])) <;>try simp only[aJ,R,simprocAttr])
   all_goals clear R
   all_goals rfl
  ·rw[if_neg q] at heq ⊢;have q1:decide (x=r)=false:=decide_eq_false q;have R:=y6 @hlc (y6 @he (y6 @hw (y6 @q1 aE)))
   repeat' ((first |refine U.aI (by decide +kernel) rfl fun K hK =>?_|(refine .aF [0,1,3,4,5,7,8,9,16] hK ?_;clear hK K)|(with_reducible refine .done (hK _ ?_);clear hK K)|refine U.of rfl ?_|(with_reducible refine ay.aG (fun h =>?_) (fun h =>?_) <;>try simp only[h])) <;>try simp only[aJ,R,simprocAttr])
   all_goals clear R
   refine ⟨i+1,⟨by omega,rfl⟩,by omega,?_⟩;clear hd heq;refine bx.cJ ?_ ?_ ?_ ?_ <;>simp[cg,cq,cn,bP,aC,cd,ev,I.only,ai.only,bG]
   all_goals rfl
 ·have hlc:=fk hlt;rw[List.drop_eq_nil_of_le (by omega),kP];have R:=y6 @hlc aE
  repeat' ((first |refine U.aI (by decide +kernel) rfl fun K hK =>?_|(refine .aF [0,1,3,4,5,7,8,9,16] hK ?_;clear hK K)|(with_reducible refine .done (hK _ ?_);clear hK K)|refine U.of rfl ?_|(with_reducible refine ay.aG (fun h =>?_) (fun h =>?_) <;>try simp only[h])) <;>try simp only[aJ,R,simprocAttr])
  all_goals clear R
  all_goals rfl
theorem EM(l:List ah)(x:ah)(hl:l.length≤4000000000000):aQ Tryz.prog 136 [enc l,enc x] (enc (decide (x∈l))):=by
 refine aQ.bN Tryz.func136 GM HV Jb (t8 rfl) (fun hwf W0 bH E1 =>?_);simp only[xR,Ce,bD,Z9];clear hwf;have f:=ET l x hl;have h:=Az x l 0;have R:=y6 @h aE
 repeat' ((first |refine U.aI (by decide +kernel) rfl fun K hK =>?_|refine .flat _ (f) rfl ?_|(refine .aF [0,1,3,4] hK ?_;clear hK K)|(with_reducible refine .done (hK _ ?_);clear hK K)|refine U.of rfl ?_|(with_reducible refine ay.aG (fun h =>?_) (fun h =>?_) <;>try simp only[h])) <;>try simp only[aJ,R,simprocAttr])
 all_goals clear R
 all_goals rfl
def gn(l:List ah):Item:=match l.getLast? with
 |none=>⟨-1,0⟩
 |some a=>a.bB
theorem XG(l:List ah)(r:ah):ji l r=(decide (r.bB=⟨(gn l).bd,(gn l).no+1⟩)||(!decide (r.bd≤(gn l).bd) && !(r.no != 0))):=by
 have e:∀ p:Item,decide ((r.bd=p.bd∧r.no=p.no+1)∨(p.bd<r.bd∧r.no=0))=(decide (r.bB=⟨p.bd,p.no+1⟩)||(!decide (r.bd≤p.bd) && !(r.no != 0))):=fun p=>by
  rw[Bool.eq_iff_iff];simp[ah.bB]
 rcases h:l.getLast? with _ | a
 ·have h1:ji l r=decide ((r.bd=-1∧r.no=1)∨(-1<r.bd∧r.no=0)):=by rw[ji,h]
  have h2:gn l=⟨-1,0⟩:=by rw[gn,h]
  rw[h1,h2];exact e ⟨-1,0⟩
 ·have h1:ji l r=decide ((r.bd=a.bd∧r.no=a.no+1)∨(a.bd<r.bd∧r.no=0)):=by rw[ji,h]
  have h2:gn l=a.bB:=by rw[gn,h]
  rw[h1,h2];exact e a.bB
def nA(l:List ah):Bool:=ib (fun out r=>bf r&&ji out r) [] l&&decide (l.length≤60)
theorem FA{aV:List ah→ah→Bool}{l:List ah}{i:Nat}(h:i<l.length):ib aV (l.take i) (l.drop i)=(aV (l.take i) l[i]&&ib aV (l.take (i+1)) (l.drop (i+1))):=by
 rw[List.drop_eq_getElem_cons h,ib,←hU h]
theorem zr:I.agg [enc (⟨0,0⟩:Item),.int .i64 0,.int .i64 0,.int .i64 0,enc (⟨0,0⟩:Item),.aj ⟨#[]⟩]=enc (default:ah):=rfl
theorem D5:(∀ A n b rest (q r:Item),dT A (some 2) n [] b (enc q) rest (some (enc r))=al rest (A.aO n (.box (enc q))))∧e9 [.int .i64 0,.int .i64 0] [(0,.int .i64 (-1))]=some [.int .i64 (-1),.int .i64 0]∧I.agg [.int .i64 (-1),.int .i64 0]=enc (⟨-1,0⟩:Item) ∧
  (∀ (x:Item),(I.agg [.int .i64 x.bd,.int .i64 (x.no+1)])=enc (⟨x.bd,x.no+1⟩:Item)) :=
 ⟨fun A n b rest q r=>by rw[eK (eY _) (by rw[gO];rfl) ((eE _).trans (eE _).symm),fD],rfl,rfl,fun _=>rfl⟩
theorem Wl{l:List ah}{i:Nat}(h:i<l.length):gn (l.take (i+1))=l[i].bB:=by
 rw[gn,hU h,List.getLast?_concat]
theorem Wm{l:List ah}(h:∀ r∈l,bf r=true):-1≤(gn l).bd∧(gn l).bd≤5∧0≤(gn l).no∧(gn l).no≤9999:=by
 rw[gn];cases e:l.getLast? with
 |none=>simp
 |some a =>
  have:=mB (mC (h a (List.mem_of_getLast? e)));simp only[ah.bB];omega
theorem Ff(l:List ah)(hl:l.length≤4000000000000):aQ Tryz.prog 92 [enc (⟨l⟩:iP)] (enc (nA l)):=by
 refine aQ.bN Tryz.func92 Hx IH JU (t8 rfl) (fun hwf W0 bH E1 =>?_);simp only[yH,CW,bD];clear hwf;have R:=aE
 repeat' ((first |(with_reducible refine .guard (fun hb =>?_) (fun hb =>?_) <;>try simp only[hb])|refine U.aI (by decide +kernel) rfl fun K hK =>?_|(refine .aF [0,1,2,3,4,5,7,8,9,10,16,19,49] hK ?_;clear hK K)|(with_reducible refine .done (hK _ ?_);clear hK K)|refine U.of rfl ?_|(with_reducible refine ay.aG (fun h =>?_) (fun h =>?_) <;>try simp only[h])) <;>try simp only[aJ,R,simprocAttr])
 all_goals clear R
 refine U.loop (fun i:Nat=>aw [(1,.ptr 1 []),(7,enc l),(8,.int .i64 l.length),(9,.int .i64 i)] [(1,.box (enc (⟨l⟩:iP)))]) (fun i=>i≤l.length∧(∀ r∈l.take i,bf r=true)∧nA l=(ib (fun out r=>bf r&&ji out r) (l.take i) (l.drop i)&&decide (l.length≤60))) (fun i=>l.length-i) 0 ⟨Nat.zero_le _,by simp,rfl⟩ ?_ ?_
 ·refine bx.cJ ?_ ?_ ?_ ?_ <;>simp[cg,cq,cn,bP,aC,cd,ev,I.only,ai.only,bG]
  all_goals rfl
 rintro i ⟨hi,hk,heq⟩;rw[heq];by_cases hlt:i<l.length
 ·have hlc:=eR hlt;have he:=fun A=>fm (A:=A) 8 hlt rfl;have hw:=ez (i:=i) (by omega);have hnx:=vC hlt hk;have hpi:=Wm hk;have hst:=XG (l.take i) l[i];rw[FA hlt] at heq ⊢;have hpz:i=0→gn (l.take i)=⟨-1,0⟩:=fun e=>by subst e;rfl
  have hps:∀ h:0<i,gn (l.take i)=(l[i-1]'(by omega)).bB:=fun h=>by
   have:=Wl (l:=l) (i:=i-1) (by omega)
   rwa [show i-1+1=i by omega] at this
  generalize l[i]=r at *;have f80:=oK r;cases q1:bf r
  ·rw[q1] at f80;have R:=y6 @hlc (y6 @he (y6 @hw (y6 @fj (y6 @eU aE))))
   repeat' ((first |(with_reducible refine .guard (fun hb =>?_) (fun hb =>?_) <;>try simp only[hb])|refine U.aI (by decide +kernel) rfl fun K hK =>?_|refine .flat _ (f80) rfl ?_|(refine .aF [0,1,2,3,4,5,7,8,9,10,16,19,49] hK ?_;clear hK K)|(with_reducible refine .done (hK _ ?_);clear hK K)|refine U.of rfl ?_|(with_reducible refine ay.aG (fun h =>?_) (fun h =>?_) <;>try simp only[h])) <;>try simp only[aJ,R,simprocAttr])
   all_goals clear R
   all_goals rfl
  rw[q1] at f80;generalize gn (l.take i)=p at *;have hww:IntKind.i64.wrap (p.no+1)=p.no+1:=dU _ (by omega) (by omega);rw[hst] at heq ⊢;by_cases hz:0<i
  ·have hgt:decide ((i:Int)>0)=true:=decide_eq_true (by omega);have hpe:=fun A=>fm (A:=A) (l:=l) (k:=i-1) 8 (by omega) rfl;have hw1:IntKind.i64.wrap ((i:Int)-1)=((i-1:Nat):Int):=by rw[dU _ (by omega) (by omega)];omega
   have hpm:=(hps hz).symm;clear hps hpz hst;generalize l[i-1]=q at *;cases c1:decide (r.bB=⟨p.bd,p.no+1⟩) <;>cases c2:decide (r.bd≤p.bd) <;>cases c3:(r.no != 0)
   all_goals
    rw[c1,c2,c3] at heq;have R:=y6 @hlc (y6 @he (y6 @hw (y6 @hgt (y6 @hpm (y6 @hpe (y6 @hw1 (y6 @hww (y6 @c1 (y6 @c2 (y6 @c3 (y6 @zr (y6 @fj (y6 @pd (y6 @eU (y6 @D5 (y6 @nz aE))))))))))))))))
    repeat' ((first |(with_reducible refine .guard (fun hb =>?_) (fun hb =>?_) <;>try simp only[hb])|refine U.aI (by decide +kernel) rfl fun K hK =>?_|refine .flat _ (f80) rfl ?_|(refine .aF [0,1,2,3,4,5,7,8,9,10,16,19,49] hK ?_;clear hK K)|(with_reducible refine .done (hK _ ?_);clear hK K)|refine U.of rfl ?_|(with_reducible refine ay.aG (fun h =>?_) (fun h =>?_) <;>try simp only[h])) <;>try simp only[aJ,R,simprocAttr])
    all_goals clear R
    all_goals first
     |rfl
     |(refine ⟨i+1,⟨by omega,hnx q1,by rfl⟩,by omega,?_⟩;clear heq hnx;(refine bx.cJ ?_ ?_ ?_ ?_ <;>simp[cg,cq,cn,bP,aC,cd,ev,I.only,ai.only,bG]);all_goals rfl)
  ·have hgt:decide ((i:Int)>0)=false:=decide_eq_false (by omega);have hpm:=(hpz (by omega)).symm;clear hps hpz hst;cases c1:decide (r.bB=⟨p.bd,p.no+1⟩) <;>cases c2:decide (r.bd≤p.bd) <;>cases c3:(r.no != 0)
   all_goals
    rw[c1,c2,c3] at heq;have R:=y6 @hlc (y6 @he (y6 @hw (y6 @hgt (y6 @hpm (y6 @hww (y6 @c1 (y6 @c2 (y6 @c3 (y6 @zr (y6 @fj (y6 @pd (y6 @eU (y6 @D5 (y6 @nz aE))))))))))))))
    repeat' ((first |(with_reducible refine .guard (fun hb =>?_) (fun hb =>?_) <;>try simp only[hb])|refine U.aI (by decide +kernel) rfl fun K hK =>?_|refine .flat _ (f80) rfl ?_|(refine .aF [0,1,2,3,4,5,7,8,9,10,16,19,49] hK ?_;clear hK K)|(with_reducible refine .done (hK _ ?_);clear hK K)|refine U.of rfl ?_|(with_reducible refine ay.aG (fun h =>?_) (fun h =>?_) <;>try simp only[h])) <;>try simp only[aJ,R,simprocAttr])
    all_goals clear R
    all_goals first
     |rfl
     |(refine ⟨i+1,⟨by omega,hnx q1,by rfl⟩,by omega,?_⟩;clear heq hnx;(refine bx.cJ ?_ ?_ ?_ ?_ <;>simp[cg,cq,cn,bP,aC,cd,ev,I.only,ai.only,bG]);all_goals rfl)
 ·have hlc:=fk hlt;rw[List.drop_eq_nil_of_le (by omega),ib];have hle:decide ((l.length:Int)≤60)=decide (l.length≤60):=by rw[decide_eq_decide];omega
  have R:=y6 @hlc (y6 @hle aE)
  repeat' ((first |(with_reducible refine .guard (fun hb =>?_) (fun hb =>?_) <;>try simp only[hb])|refine U.aI (by decide +kernel) rfl fun K hK =>?_|(refine .aF [0,1,2,3,4,5,7,8,9,10,16,19,49] hK ?_;clear hK K)|(with_reducible refine .done (hK _ ?_);clear hK K)|refine U.of rfl ?_|(with_reducible refine ay.aG (fun h =>?_) (fun h =>?_) <;>try simp only[h])) <;>try simp only[aJ,R,simprocAttr])
  all_goals clear R
  all_goals rfl
theorem Ee(l:List ah)(m:Nat):(l++List.replicate m cD).take l.length=l:=zy7
theorem tr(l:List ah)(hl:l.length≤1000):aQ Tryz.prog 93 [enc l] (enc l):=by
 refine aQ.bN Tryz.func93 yR yW zc (t8 rfl) (fun hwf W0 bH E1 =>?_);simp only[tV,vN,bD];refine .dP (by decide +kernel) fun K hK =>?_;simp only[uT,ba,simprocAttr];refine .done (hK _ ?_);clear hK K;refine U.seq (U.seq ?_);by_cases hn:l=[]
 ·subst hn;refine .gV (by decide +kernel) fun K hK =>?_;simp only[pw,ba,simprocAttr];simp only[td,List.isEmpty_nil,n9];refine .any rfl fun b _ =>?_
  try simp only[ba,simprocAttr]
  generalize (b==0)=t;cases t
  ·refine .done (hK _ ?_);clear hK K;try simp only[cQ]
   refine U.gD ?_;simp only[ay,ba,simprocAttr];refine ⟨fun h =>?_,fun h =>?_⟩
   ·cases h
   refine U.skip ?_;try simp only[cQ,simprocAttr]
   refine .dP (by decide +kernel) fun K hK =>?_;simp only[px,ba,simprocAttr]
   try simp only[hZ,kJ,ba,simprocAttr]
   refine .done (hK _ ?_);clear hK K;refine U.ret ?_;simp only[ba,simprocAttr]
   all_goals rfl
  ·refine .done (hK _ ?_);clear hK K;refine U.gD ?_;simp only[ay,ba,simprocAttr];refine ⟨fun h =>?_,fun h =>?_⟩
   ·refine .dP (by decide +kernel) fun K hK =>?_;simp only[uU,ba,simprocAttr];refine .done (hK _ ?_);clear hK K;refine U.ret ?_;simp only[cQ,ba,simprocAttr]
    all_goals rfl
   ·cases h
 ·have hu:iN (enc l)=false:=by rw[td];simpa using hn
  refine .gV (by decide +kernel) fun K hK =>?_;simp only[pw,ba,simprocAttr]
  try simp only[hu,Bj _ l hn,ba,simprocAttr]
  refine .done (hK _ ?_);clear hK K;try simp only[cQ]
  refine U.gD ?_;simp only[ay,ba,simprocAttr];refine ⟨fun h =>?_,fun h =>?_⟩
  ·cases h
  refine U.skip ?_;try simp only[cQ,simprocAttr]
  refine .dP (by decide +kernel) fun K hK =>?_;simp only[px,ba,simprocAttr]
  try simp only[hZ,kJ,ba,simprocAttr]
  refine aX.tG cD rfl hn rfl (by omega) (by simp only[maxLen];omega) fun m =>?_
  try simp only[ba,simprocAttr]
  refine .done (hK _ ?_);clear hK K;refine U.ret ?_;simp only[ba,simprocAttr]
  try simp only[ru (α:=ah) (sz:=8) rfl,Ee,ba,simprocAttr]
def AB(g:ah):b6:=fun r os'=>∃ q,r=.view 25 [] 8 0 1∧os'=eT 25 [g] q
theorem DN(A:ab):hG A 8 (some (.int .i64 0)) none none (.c0 8)=some (.slice 8 [])∧hG A 8 (some (.int .i64 0)) none none (.nils 8)=some (.slice 8 []):=by
 constructor <;>simp[hG,gL,gf]
theorem EC(x:I)(hx:x=.nils 8∨x=.c0 8)(g:ah):eL Tryz.prog 101 [x,enc (0:Int),enc [g]] [] (AB g):=by
 rcases hx with rfl | rfl
 ·refine eL.bN Tryz.func101 tW tY uf (t8 rfl) (t8 rfl) (fun m hm=>by simp[aC,aH] at hm) (fun hwf W0 bH E1 =>?_);simp only[qT,sF,bD,Z9,Nat.reduceAdd];refine .dP (by decide +kernel) fun K hK =>?_;simp only[rA,ba];refine .done (hK _ ?_);clear hK K;refine .dP (by decide +kernel) fun K hK =>?_;simp only[rB,ba,Nat.reduceEqDiff,reduceIte]
  try simp only[zz3,(DN _).2,ba]
  refine .done (hK _ ?_);clear hK K;refine .dP (by decide +kernel) fun K hK =>?_;simp only[rC,ba,Nat.reduceEqDiff,reduceIte]
  try simp only[typR,iO,jC,iF,ba,Nat.reduceEqDiff,reduceIte,Int.reduceBNe,Int.reduceBEq]
  refine .done (hK _ ?_);clear hK K;refine U.seq (U.seq ?_);refine .gV (by decide +kernel) fun K hK =>?_;simp only[rD,ba,Nat.reduceEqDiff,reduceIte]
  try simp only[typR,iO,jC,iF,ba,Nat.reduceEqDiff,reduceIte,Int.reduceBNe,Int.reduceBEq]
  refine .done (hK _ ?_);clear hK K;try simp only[cQ]
  refine U.gD ?_;simp only[ay,ba,Nat.reduceEqDiff,reduceIte];refine ⟨fun h =>?_,fun h =>?_⟩
  ·first | cases h | simp at h
  refine U.skip ?_;try simp only[cQ]
  refine .dP (by decide +kernel) fun K hK =>?_;simp only[rE,ba,Nat.reduceEqDiff,reduceIte]
  try simp only[typR,iO,jC,iF,ba,Nat.reduceEqDiff,reduceIte,Int.reduceBNe,Int.reduceBEq]
  refine .done (hK _ ?_);clear hK K;refine U.seq (U.seq ?_);refine .gV (by decide +kernel) fun K hK =>?_;simp only[rF,ba,Nat.reduceEqDiff,reduceIte,Int.reduceBEq]
  try simp only[typR,iO,jC,iF,ba,Nat.reduceEqDiff,reduceIte,Int.reduceBNe,Int.reduceBEq]
  refine .done (hK _ ?_);clear hK K;try simp only[cQ]
  refine U.gD ?_;simp only[ay,ba,Nat.reduceEqDiff,reduceIte];refine ⟨fun h =>?_,fun h =>?_⟩
  case refine_2.refine_2=>first | cases h | simp at h
  refine .dP (by decide +kernel) fun K hK =>?_;simp only[pt,ba,Nat.reduceEqDiff,reduceIte]
  try simp only[kJ]
  refine aX.FK (esz:=8) cD (l:=[g]) rfl (by simp) rfl (by simp) (by simp[maxLen]) fun q =>?_
  try simp only[ba,Nat.reduceEqDiff,reduceIte]
  refine .done (hK _ ?_);clear hK K;refine U.ret ?_;simp only[cQ,jG];exact ⟨eT 25 [g] q,[.view 25 [] 8 0 1],nQ rfl (fun p=>fW p _),⟨⟨_,rfl,.inl ⟨rfl,rfl,rfl⟩⟩,trivial⟩,q,rfl,rfl⟩
 ·refine eL.bN Tryz.func101 tW tY uf (t8 rfl) (t8 rfl) (fun m hm=>by simp[aC,aH] at hm) (fun hwf W0 bH E1 =>?_);simp only[qT,sF,bD,Z9,Nat.reduceAdd];refine .dP (by decide +kernel) fun K hK =>?_;simp only[rA,ba];refine .done (hK _ ?_);clear hK K;refine .dP (by decide +kernel) fun K hK =>?_;simp only[rB,ba,Nat.reduceEqDiff,reduceIte]
  try simp only[zz3,(DN _).1,ba]
  refine .done (hK _ ?_);clear hK K;refine .dP (by decide +kernel) fun K hK =>?_;simp only[rC,ba,Nat.reduceEqDiff,reduceIte]
  try simp only[typR,iO,jC,iF,ba,Nat.reduceEqDiff,reduceIte,Int.reduceBNe,Int.reduceBEq]
  refine .done (hK _ ?_);clear hK K;refine U.seq (U.seq ?_);refine .gV (by decide +kernel) fun K hK =>?_;simp only[rD,ba,Nat.reduceEqDiff,reduceIte]
  try simp only[typR,iO,jC,iF,ba,Nat.reduceEqDiff,reduceIte,Int.reduceBNe,Int.reduceBEq]
  refine .done (hK _ ?_);clear hK K;try simp only[cQ]
  refine U.gD ?_;simp only[ay,ba,Nat.reduceEqDiff,reduceIte];refine ⟨fun h =>?_,fun h =>?_⟩
  ·first | cases h | simp at h
  refine U.skip ?_;try simp only[cQ]
  refine .dP (by decide +kernel) fun K hK =>?_;simp only[rE,ba,Nat.reduceEqDiff,reduceIte]
  try simp only[typR,iO,jC,iF,ba,Nat.reduceEqDiff,reduceIte,Int.reduceBNe,Int.reduceBEq]
  refine .done (hK _ ?_);clear hK K;refine U.seq (U.seq ?_);refine .gV (by decide +kernel) fun K hK =>?_;simp only[rF,ba,Nat.reduceEqDiff,reduceIte,Int.reduceBEq]
  try simp only[typR,iO,jC,iF,ba,Nat.reduceEqDiff,reduceIte,Int.reduceBNe,Int.reduceBEq]
  refine .done (hK _ ?_);clear hK K;try simp only[cQ]
  refine U.gD ?_;simp only[ay,ba,Nat.reduceEqDiff,reduceIte];refine ⟨fun h =>?_,fun h =>?_⟩
  case refine_2.refine_2=>first | cases h | simp at h
  refine .dP (by decide +kernel) fun K hK =>?_;simp only[pt,ba,Nat.reduceEqDiff,reduceIte]
  try simp only[kJ]
  refine aX.tG (esz:=8) cD (l:=[g]) rfl (by simp) rfl (by simp) (by simp[maxLen]) fun q =>?_
  try simp only[ba,Nat.reduceEqDiff,reduceIte]
  refine .done (hK _ ?_);clear hK K;refine U.ret ?_;simp only[cQ,jG];exact ⟨eT 25 [g] q,[.view 25 [] 8 0 1],nQ rfl (fun p=>fW p _),⟨⟨_,rfl,.inl ⟨rfl,rfl,rfl⟩⟩,trivial⟩,q,rfl,rfl⟩
theorem dG.mE{aB:Bool}{ρ:List (Nat×Nat)}{k:Nat}{x:ai}{os0:List (Nat×ai)}{r c:I}(h1:∀ p,c.only p=true)(h2:aB=true→c.cV=true)(h3:r.only (aC [(k,.box c)])=true)(h4:aB=true→r.cV=true):dG aB ρ [(k,x)] os0 r [(k,.box c)]:=by
 refine ⟨fun m x h =>?_,fun m m' h h' _ =>?_,fun m h =>?_,fun m h h' =>?_,h3,h4⟩
 ·simp only[aH] at h;split at h
  ·simp only[v6] at h;subst h;exact ⟨h1 _,rfl,h2⟩
  ·cases h
 ·rw[gC.1 h,gC.1 h']
 ·rw[gC.1 h];exact gC.2 rfl
 ·rw[gC.1 h] at h';have:aC [(k,x)] k=true:=gC.2 rfl;rw[this] at h';cases h'
theorem dG.oB{aB:Bool}{ρ:List (Nat×Nat)}{k k' d d':Nat}{x:ai}{os0:List (Nat×ai)}{r c c':I}(hk:bo ρ k=d)(hk':bo ρ k'=d')(hd:d≠d')(hne:k≠k')(h1:∀ p,c.only p=true)(h2:aB=true→c.cV=true)(h1':∀ p,c'.only p=true)(h2':aB=true→c'.cV=true)
  (h3:r.only (aC [(k,.box c),(k',.box c')])=true) (h4:aB=true→r.cV=true) (h5:aH os0 d=none) (h6:d<1000000):dG aB ρ [(k',x)] os0 r [(k,.box c),(k',.box c')]:=by
 have oB:∀ m,aC [(k,ai.box c),(k',ai.box c')] m=true→m=k∨m=k':=fun m h=>by
  simp only[aC,aH] at h;split at h
  ·rename_i e;exact .inl e
  ·split at h
   ·rename_i e;exact .inr e
   ·cases h
 refine ⟨fun m y h =>?_,fun m m' h h' e =>?_,fun m h =>?_,fun m h h' =>?_,h3,h4⟩
 ·simp only[aH] at h;split at h
  ·simp only[v6] at h;subst h;exact ⟨h1 _,rfl,h2⟩
  ·split at h
   ·simp only[v6] at h;subst h;exact ⟨h1' _,rfl,h2'⟩
   ·cases h
 ·rcases oB m h with rfl | rfl <;>rcases oB m' h' with rfl | rfl
  ·rfl
  ·rw[hk,hk'] at e;exact absurd e hd
  ·rw[hk,hk'] at e;exact absurd e.symm hd
  ·rfl
 ·rw[gC.1 h];simp[aC,aH,Ne.symm hne]
 ·rcases oB m h with rfl | rfl
  ·rw[hk];exact ⟨h5,h6⟩
  ·have:aC [(m,x)] m=true:=gC.2 rfl;rw[this] at h';cases h'
def iT(l:List ah)(r:ah):List ah×Int :=
 if nA l=false then ([],81) else if bf r=false then ([],80)
 else if jZ l r.bB=true then (if l.getD (fC l r.bB) default=r then (l,0) else ([],82))
 else if (dq l r.bd:Int)<r.no then ([],83) else if l.length=60 then ([],2) else (fU l (fC l r.bB) r,0)
theorem xl{aV:List ah→ah→Bool} : ∀ {l out:List ah},ib (fun out r=>bf r&&aV out r) out l=true↔(∀ r∈l,bf r=true)∧ib aV out l=true
 | [],_=>by simp[ib]
 |r::l,out=>by
  simp only[ib,Z0,xl (l:=l),zy0,forall_eq_or_imp];constructor
  ·rintro ⟨⟨h1,h2⟩,h3,h4⟩;exact ⟨⟨h1,h3⟩,h2,h4⟩
  ·rintro ⟨⟨h1,h3⟩,h2,h4⟩;exact ⟨⟨h1,h2⟩,h3,h4⟩
structure Fj (l:List ah):Prop where
 ok:∀ r∈l,bf r=true
 D0:oP l
 len:l.length≤60
 step:ib ji [] l=true
theorem VY{r:ah}(h:bf r=true):0≤r.bd∧0≤r.no:=by have:=mB (mC h);omega
theorem Gr{l:List ah}(h:nA l=true):Fj l:=by
 simp only[nA,Z0,decide_eq_true_eq] at h;obtain ⟨h1,h2⟩:=h;obtain ⟨h3,h4⟩:=xl.1 h1;refine ⟨h3,?_,h2,h4⟩;have:=xC l [] trivial (fun r hr=>VY (h3 r hr)) h4 List.Pairwise.nil;simpa using this
theorem iz:(∀ A n b rest,dT A (some 1) n [] b (.agg [.nils 8]) rest (some (.agg [.nils 8]))=al rest (A.aO n (.box (.agg [.nils 8])))) ∧
  (∀ A n b rest m p lo k,dT A (some 1) n [] b (.agg [.view m p 8 lo k]) rest (some (.agg [.nils 8]))=al rest (A.aO n (.box (.agg [.view m p 8 lo k])))) ∧
  (∀ A n b rest (l:List ah),dT A (some 1) n [] b (.agg [enc l]) rest (some (.agg [.nils 8]))=al rest (A.aO n (.box (.agg [enc l])))) ∧
  (∀ l:List ah,e9 [.nils 8] [(0,enc l)]=some [enc l])∧(∀ m p lo k,e9 [.nils 8] [(0,.view m p 8 lo k)]=some [.view m p 8 lo k])∧(∀ l:List ah,bS (some 1) (.agg [enc l])=true)∧bS (some 1) (.agg [.nils 8])=true∧(∀ m p lo k,bS (some 1) (.agg [.view m p 8 lo k])=true) :=
 ⟨fun A n b rest=>by rw[eK (s:=some 1) (v:=.agg [.nils 8]) (old:=.agg [.nils 8]) rfl rfl rfl,fD],fun A n b rest m p lo k=>by rw[eK (s:=some 1) (v:=.agg [.view m p 8 lo k]) (old:=.agg [.nils 8]) rfl rfl rfl,fD],
  fun A n b rest l=>by rw[eK (s:=some 1) (v:=.agg [enc l]) (old:=.agg [.nils 8]) rfl rfl rfl,fD],fun _=>rfl,fun _ _ _ _=>rfl,fun _=>rfl,rfl,fun _ _ _ _=>rfl⟩
theorem E5(l:List ah)(r:ah)(hl:l.length≤4000000000000):aQ Tryz.prog 44 [enc (⟨l⟩:iP),enc r] (.tuple [enc (⟨(iT l r).1⟩:iP),enc (iT l r).2]):=by
 refine aQ.bN Tryz.func44 He Io JB (t8 rfl) (fun hwf W0 bH E1 =>?_);simp only[yp,CE,bD,Z9];clear hwf;have f92:=Ff l hl;simp only[iT];cases q1:nA l
 ·rw[q1] at f92;simp only[if_true];have R:=y6 @iz aE
  repeat' ((first |(with_reducible refine .guard (fun hb =>?_) (fun hb =>?_) <;>try simp only[hb])|refine U.aI (by decide +kernel) rfl fun K hK =>?_|refine .flat _ (f92) rfl ?_|(refine .aF [0,1,2,3,4,5,6,7,8,13,25,40,43,56] hK ?_;clear hK K)|(with_reducible refine .done (hK _ ?_);clear hK K)|refine U.of rfl ?_|(with_reducible refine ay.aG (fun h =>?_) (fun h =>?_) <;>try simp only[h])) <;>try simp only[aJ,R,simprocAttr])
  all_goals clear R
  all_goals rfl
 rw[q1] at f92;have hb:=Gr q1;have f80:=oK r;simp only[Bool.true_eq_false,if_false];cases q2:bf r
 ·rw[q2] at f80;simp only[if_true];have R:=y6 @iz aE
  repeat' ((first |(with_reducible refine .guard (fun hb =>?_) (fun hb =>?_) <;>try simp only[hb])|refine U.aI (by decide +kernel) rfl fun K hK =>?_|refine .flat _ (f92) rfl ?_|refine .flat _ (f80) rfl ?_|(refine .aF [0,1,2,3,4,5,6,7,8,13,25,40,43,56] hK ?_;clear hK K)|(with_reducible refine .done (hK _ ?_);clear hK K)|refine U.of rfl ?_|(with_reducible refine ay.aG (fun h =>?_) (fun h =>?_) <;>try simp only[h])) <;>try simp only[aJ,R,simprocAttr])
  all_goals clear R
  all_goals rfl
 rw[q2] at f80;simp only[Bool.true_eq_false,if_false];have hlen:=hb.len;have f94:=Fg l r.bB hb.D0 (by omega);have hpl:=Wi l r.bB;have hcl:=tr l (by omega);cases q3:jZ l r.bB
 rotate_left
 ·rw[q3] at f94;obtain ⟨hp,hat⟩:=(Ar hb.D0 r.bB).1 q3;simp only[if_true];have hg:l.getD (fC l r.bB) default=l[fC l r.bB]:=by simp[Y7,hp]
  rw[hg];have he:=fun A=>fm (A:=A) 8 hp rfl;generalize l[fC l r.bB]=x at *;generalize fC l r.bB=p at *;by_cases q4:x=r
  ·have q4':decide (x=r)=true:=decide_eq_true q4;rw[if_pos q4];have R:=y6 @he (y6 @q4' (y6 @iz aE))
   repeat' ((first |(with_reducible refine .guard (fun hb =>?_) (fun hb =>?_) <;>try simp only[hb])|refine U.aI (by decide +kernel) rfl fun K hK =>?_|refine .flat _ (f92) rfl ?_|refine .flat _ (f80) rfl ?_|refine .lead _ (f94) ?_|refine .lead _ (hcl) ?_|(refine .aF [0,1,2,3,4,5,6,7,8,13,25,40,43,56] hK ?_;clear hK K)|(with_reducible refine .done (hK _ ?_);clear hK K)|refine U.of rfl ?_|(with_reducible refine ay.aG (fun h =>?_) (fun h =>?_) <;>try simp only[h])) <;>try simp only[aJ,R,simprocAttr])
   all_goals clear R
   all_goals rfl
  ·have q4':decide (x=r)=false:=decide_eq_false q4;rw[if_neg q4];have R:=y6 @he (y6 @q4' (y6 @iz aE))
   repeat' ((first |(with_reducible refine .guard (fun hb =>?_) (fun hb =>?_) <;>try simp only[hb])|refine U.aI (by decide +kernel) rfl fun K hK =>?_|refine .flat _ (f92) rfl ?_|refine .flat _ (f80) rfl ?_|refine .lead _ (f94) ?_|refine .lead _ (hcl) ?_|(refine .aF [0,1,2,3,4,5,6,7,8,13,25,40,43,56] hK ?_;clear hK K)|(with_reducible refine .done (hK _ ?_);clear hK K)|refine U.of rfl ?_|(with_reducible refine ay.aG (fun h =>?_) (fun h =>?_) <;>try simp only[h])) <;>try simp only[aJ,R,simprocAttr])
   all_goals clear R
   all_goals rfl
 rw[q3] at f94;simp only[Z7,if_false];have hin:lE l:=fun x hx=>od (hb.ok x hx);have f100:=wR l hl hin;have hix:=u7 l (od q2);by_cases q5:(dq l r.bd:Int)<r.no
 ·have q5':decide ((dq l r.bd:Int)<r.no)=true:=decide_eq_true q5;rw[if_pos q5];have R:=y6 @hix (y6 @q5' (y6 @nf (y6 @iz aE)))
  repeat' ((first |(with_reducible refine .guard (fun hb =>?_) (fun hb =>?_) <;>try simp only[hb])|refine U.aI (by decide +kernel) rfl fun K hK =>?_|refine .flat _ (f92) rfl ?_|refine .flat _ (f80) rfl ?_|refine .lead _ (f94) ?_|refine .lead _ (f100) ?_|(refine .aF [0,1,2,3,4,5,6,7,8,13,25,40,43,56] hK ?_;clear hK K)|(with_reducible refine .done (hK _ ?_);clear hK K)|refine U.of rfl ?_|(with_reducible refine ay.aG (fun h =>?_) (fun h =>?_) <;>try simp only[h])) <;>try simp only[aJ,R,simprocAttr])
  all_goals clear R
  all_goals rfl
 have q5':decide ((dq l r.bd:Int)<r.no)=false:=decide_eq_false q5;rw[if_neg q5];by_cases q6:l.length=60
 ·have q6':((l.length:Int)==60)=true:=by rw[beq_iff_eq];omega
  rw[if_pos q6];have R:=y6 @hix (y6 @q5' (y6 @q6' (y6 @nf (y6 @iz aE))))
  repeat' ((first |(with_reducible refine .guard (fun hb =>?_) (fun hb =>?_) <;>try simp only[hb])|refine U.aI (by decide +kernel) rfl fun K hK =>?_|refine .flat _ (f92) rfl ?_|refine .flat _ (f80) rfl ?_|refine .lead _ (f94) ?_|refine .lead _ (f100) ?_|(refine .aF [0,1,2,3,4,5,6,7,8,13,25,40,43,56] hK ?_;clear hK K)|(with_reducible refine .done (hK _ ?_);clear hK K)|refine U.of rfl ?_|(with_reducible refine ay.aG (fun h =>?_) (fun h =>?_) <;>try simp only[h])) <;>try simp only[aJ,R,simprocAttr])
  all_goals clear R
  all_goals rfl
 have q6':((l.length:Int)==60)=false:=by rw[beq_eq_false_iff_ne];omega
 rw[if_neg q6];have hbs:gh 8 (some [enc r])=some (enc [r]):=oZ 8 r rfl;have R:=y6 @hix (y6 @q5' (y6 @q6' (y6 @hbs (y6 @nf (y6 @iz aE)))))
 repeat' ((first |(with_reducible refine .guard (fun hb =>?_) (fun hb =>?_) <;>try simp only[hb])|(refine U.lP (gs:=uO) [101] [(2,[2]),(3,[3]),(4,[4]),(62,[2])] [0,1,3,4,5,2,6,7,8,9] (by decide +kernel) (dH.of (by simp[jv,cd,Bb,I.only])) fun K hK =>?_;simp only[j9,uO,List.getD_cons_zero,List.getD_cons_succ,R,simprocAttr])|refine U.aI (by decide +kernel) rfl fun K hK =>?_|refine .flat _ (f92) rfl ?_|refine .flat _ (f80) rfl ?_|refine .lead _ (f94) ?_|refine .lead _ (f100) ?_|(refine .aF [0,1,2,3,4,5,6,7,8,13,25,40,43,56] hK ?_;clear hK K)|(with_reducible refine .done (hK _ ?_);clear hK K)|refine U.of rfl ?_|(with_reducible refine ay.aG (fun h =>?_) (fun h =>?_) <;>try simp only[h])) <;>try simp only[aJ,R,simprocAttr])
 all_goals clear R
 obtain ⟨av,hL⟩:∃ av,av=fU l (fC l r.bB) r:=⟨_,rfl⟩
 have hLn:l.length+1=av.length:=by rw[hL,Ub r hpl]
 have hfin:∀ q,kL 8 0 (l.length+1) (some ((av++List.replicate q cD).map enc))=some (enc av):=fun q=>by
  rw[ru (α:=ah) (sz:=8) rfl,hLn,Ee]
 refine .bz [(7,64)] [enc l] (qY l) (xe l (by omega)) eM.nil ⟨.inl ⟨(iG _ _).symm,bG _ _,eY _⟩,trivial⟩ ?_ ?_
 ·rintro x os' (⟨_,h | h,rfl⟩ | ⟨_,k,rfl,rfl⟩)
  ·subst h;exact dG.nil (fun _=>rfl) (fun h=>by cases h)
  ·subst h;exact dG.nil (fun _=>rfl) (fun h=>by cases h)
  ·exact dG.vu (fun p=>fW p _) (fun h=>by cases h) rfl (fun h=>by cases h) rfl (by decide)
 rintro x os' (⟨hn,h,rfl⟩ | ⟨hn,k,rfl,rfl⟩)
 ·have hren:x.aR (bo [(7,64)])=x∧x.cv=true∧∀ q,x.only q=true:=by rcases h with rfl | rfl <;>exact ⟨by simp only[I.aR],rfl,fun _=>rfl⟩
  have hren2:x.aR (bo [(25,68)])=x:=by rcases h with rfl | rfl <;>simp only[I.aR]
  have hpos:fC l r.bB=0:=by rw[hn];rfl
  rw[hren.1,hpos]
  try simp only[oi,zz2,aE,ba,simprocAttr]
  refine .bz [(25,68)] [x,enc (0:Int),enc [r]] (AB r) (EC x h r) eM.nil ⟨.inl ⟨hren2.symm,hren.2.2 _,hren.2.1⟩,.inl ⟨rfl,rfl,rfl⟩,.inl ⟨(iG _ _).symm,bG _ _,eY _⟩,trivial⟩ ?_ ?_
  ·rintro x os' ⟨k,rfl,rfl⟩;exact dG.vu (fun p=>fW p _) (fun h=>by cases h) rfl (fun h=>by cases h) rfl (by decide)
  ·rintro x os' ⟨k,rfl,rfl⟩;have hLg:[r]=av:=by rw[hL,hpos,hn];rfl
   have hf1:=hfin k;rw[hn] at hf1;simp only[zy1,Z9] at hf1;rw[hLg]
   try simp only[eT,oi,mP,Y2,zz2,iz,ba,simprocAttr]
   refine .done (hK _ ?_);clear hK K;refine U.ret ?_;simp only[ba,simprocAttr]
   try simp only[hf1,iz,ba,simprocAttr]
   rw[←hL];rfl
 ·try simp only[eT,oi,mP,Y2,zz2,aE,ba,simprocAttr]
  refine .vx false [(1000000,64),(25,68),(40,69)] (eT 1000000 l k) [.view 1000000 [] 8 0 l.length,enc (fC l r.bB:Int),enc [r]] (AD l (fC l r.bB) r k) rfl (EB l (fC l r.bB) r k hpl hn (by omega)) ⟨?_,?_⟩ ⟨.inl ⟨?_,?_,rfl⟩,.inl ⟨rfl,rfl,rfl⟩,.inl ⟨(iG _ _).symm,bG _ _,eY _⟩,trivial⟩ ?_ ?_
  ·intro n x h;simp only[eT,aH] at h;split at h
   ·rename_i hn';subst hn';simp only[v6] at h;subst h;exact ⟨by simp only[oi,mP,ba,simprocAttr],fW _ _,rfl⟩
   ·cases h
  ·intro a b ha hb _;rw[Go.Abs.gC.1 ha,Go.Abs.gC.1 hb]
  ·try simp only[oi,simprocAttr]
  ·exact Go.Abs.gC.2 rfl
  ·rintro x os' (⟨q,rfl,rfl⟩ | ⟨d,q,rfl | rfl,rfl,rfl⟩)
   ·exact dG.mE (fun p=>fW p _) (fun h=>by cases h) rfl (fun h=>by cases h)
   ·exact dG.oB rfl rfl (by decide) (by decide) (fun p=>fW p _) (fun h=>by cases h) (fun p=>fW p _) (fun h=>by cases h) rfl (fun h=>by cases h) rfl (by decide)
   ·exact dG.oB rfl rfl (by decide) (by decide) (fun p=>fW p _) (fun h=>by cases h) (fun p=>fW p _) (fun h=>by cases h) rfl (fun h=>by cases h) rfl (by decide)
  ·rintro x os' (⟨q,rfl,rfl⟩ | ⟨d,q,rfl | rfl,rfl,rfl⟩)
   all_goals
    rw[←hL];have hf1:=hfin q
    try simp only[eT,oi,mP,Y2,zz2,iz,ba,simprocAttr]
    refine .done (hK _ ?_);clear hK K;refine U.ret ?_;simp only[ba,simprocAttr]
    try simp only[hf1,iz,ba,simprocAttr]
    rw[←hL];rfl
end Go.Proofs.YtoffnnjbplgnaaaGreatDoor
namespace Go.Proofs.YtoffnnjbplgnaaaGreatDoor
open Go Go.Abs Go.Shelf Go.RowKit Go.Sort Go.Proofs
open Go.Abs.Enc (enc)
def AU:Go.Shelf.Ren:=⟨fun | 6=>141 | 15=>163 | 14=>162 | 28=>184 | 29=>185 | 20=>176 | 21=>177 | 22=>178 | 23=>179 | 24=>180 | 25=>181 | 26=>182 | 27=>183 | 46=>199 | 47=>200 | 48=>201 | 49=>202 | 50=>203 | 57=>213 | n=>n,fun | 22=>23 | 24=>50 | 25=>188 | 3=>3 | 39=>208 | 0=>0 | 53=>225 | 55=>227 | 4=>4 | 46=>219 | 45=>218 | 50=>144 | 5=>5 | 9=>9 | 66=>243 | 70=>247 | 76=>258 | 77=>259 | n=>n,fun | n=>n⟩
theorem UE:Go.Proofs.SlLaysF0.n6 Tryz.prog AU := {
 mixed:=by kernel_rfl
 f6 := ⟨ "slices.SortFunc[[]pinfold/api.Record,pinfold/api.Record]", by decide, Tryz.func141.trans (congrArg some (by kernel_rfl))⟩
 f14 := ⟨ "slices.pdqsortCmpFunc[pinfold/api.Record]", by decide, Tryz.func162.trans (congrArg some (by kernel_rfl))⟩
 f15:=Tryz.func163.trans (congrArg some (by kernel_rfl))
 f20 := ⟨ "slices.insertionSortCmpFunc[pinfold/api.Record]", by decide, Tryz.func176.trans (congrArg some (by kernel_rfl))⟩
 f21 := ⟨ "slices.heapSortCmpFunc[pinfold/api.Record]", by decide, Tryz.func177.trans (congrArg some (by kernel_rfl))⟩
 f22 := ⟨ "slices.breakPatternsCmpFunc[pinfold/api.Record]", by decide, Tryz.func178.trans (congrArg some (by kernel_rfl))⟩
 f23 := ⟨ "slices.choosePivotCmpFunc[pinfold/api.Record]", by decide, Tryz.func179.trans (congrArg some (by kernel_rfl))⟩
 f24 := ⟨ "slices.reverseRangeCmpFunc[pinfold/api.Record]", by decide, Tryz.func180.trans (congrArg some (by kernel_rfl))⟩
 f25 := ⟨ "slices.partialInsertionSortCmpFunc[pinfold/api.Record]", by decide, Tryz.func181.trans (congrArg some (by kernel_rfl))⟩
 f26 := ⟨ "slices.partitionEqualCmpFunc[pinfold/api.Record]", by decide, Tryz.func182.trans (congrArg some (by kernel_rfl))⟩
 f27 := ⟨ "slices.partitionCmpFunc[pinfold/api.Record]", by decide, Tryz.func183.trans (congrArg some (by kernel_rfl))⟩
 f28:=Tryz.func184.trans (congrArg some (by kernel_rfl))
 f29:=Tryz.func185.trans (congrArg some (by kernel_rfl))
 f46 := ⟨ "slices.siftDownCmpFunc[pinfold/api.Record]", by decide, Tryz.func199.trans (congrArg some (by kernel_rfl))⟩
 f47:=Tryz.func200.trans (congrArg some (by kernel_rfl))
 f48:=Tryz.func201.trans (congrArg some (by kernel_rfl))
 f49 := ⟨ "slices.medianAdjacentCmpFunc[pinfold/api.Record]", by decide, Tryz.func202.trans (congrArg some (by kernel_rfl))⟩
 f50 := ⟨ "slices.medianCmpFunc[pinfold/api.Record]", by decide, Tryz.func203.trans (congrArg some (by kernel_rfl))⟩
 f57 := ⟨ "slices.order2CmpFunc[pinfold/api.Record]", by decide, Tryz.func213.trans (congrArg some (by kernel_rfl))⟩
 t0:=Tryz.underlying0
 a0:=Tryz.isAgg0
 z0:=Tryz.sizeOf0
 v0:=Tryz.zeroValue0
 t3:=Tryz.underlying3
 a3:=Tryz.isAgg3
 z3:=Tryz.sizeOf3
 v3:=Tryz.zeroValue3
 t4:=Tryz.underlying4
 a4:=Tryz.isAgg4
 z4:=Tryz.sizeOf4
 v4:=Tryz.zeroValue4
 t5:=Tryz.underlying5
 a5:=Tryz.isAgg5
 z5:=Tryz.sizeOf5
 v5:=Tryz.zeroValue5
 t9:=Tryz.underlying9
 a9:=Tryz.isAgg9
 z9:=Tryz.sizeOf9
 v9:=Tryz.zeroValue9
 t22:=Tryz.underlying23
 a22:=Tryz.isAgg23
 z22:=Tryz.sizeOf23
 v22:=Tryz.zeroValue23
 t25:=Tryz.underlying188
 a25:=Tryz.isAgg188
 z25:=Tryz.sizeOf188
 v25:=Tryz.zeroValue188
 t39:=Tryz.underlying208
 a39:=Tryz.isAgg208
 z39:=Tryz.sizeOf208
 v39:=Tryz.zeroValue208
 t45:=Tryz.underlying218
 a45:=Tryz.isAgg218
 z45:=Tryz.sizeOf218
 v45:=Tryz.zeroValue218
 t46:=Tryz.underlying219
 a46:=Tryz.isAgg219
 z46:=Tryz.sizeOf219
 v46:=Tryz.zeroValue219
 t50:=Tryz.underlying144
 a50:=Tryz.isAgg144
 z50:=Tryz.sizeOf144
 v50:=Tryz.zeroValue144
 t53:=Tryz.underlying225
 a53:=Tryz.isAgg225
 z53:=Tryz.sizeOf225
 v53:=Tryz.zeroValue225
 t55:=Tryz.underlying227
 a55:=Tryz.isAgg227
 z55:=Tryz.sizeOf227
 v55:=Tryz.zeroValue227
 t66:=Tryz.underlying243
 a66:=Tryz.isAgg243
 z66:=Tryz.sizeOf243
 v66:=Tryz.zeroValue243
 t70:=Tryz.underlying247
 a70:=Tryz.isAgg247
 z70:=Tryz.sizeOf247
 v70:=Tryz.zeroValue247
 t76:=Tryz.underlying258
 a76:=Tryz.isAgg258
 z76:=Tryz.sizeOf258
 v76:=Tryz.zeroValue258
 t77:=Tryz.underlying259
 a77:=Tryz.isAgg259
 z77:=Tryz.sizeOf259
 v77:=Tryz.zeroValue259 }
theorem ER:aQ Tryz.prog 141 [enc ([]:List ah),.func 142 []] (.tuple []):=by
 refine ⟨by kernel_rfl,fun w D vs _ hD hv =>?_⟩;simp only[ao] at hv;obtain ⟨u,rest,cs',rfl,hp,hr',hv2⟩:=hv;obtain ⟨a,cap,h1,_⟩:=hr';have h2:cs'=[u]:=hp;rw[h1] at h2;obtain rfl:u=.slice a 0 cap:=by simpa using h2.symm
 obtain ⟨f,rest2,cs2,rfl,hp2,hr2,rfl⟩:=hv2;simp only[ae] at hr2;obtain ⟨vs2,e2,e3⟩:=hr2;have h3:cs2=[f]:=hp2;rw[e2] at h3;simp only[ao] at e3;subst e3;obtain rfl:f=.func (.func 142) #[] #[]:=by
  have:=h3.symm;simp only[Y9,and_true] at this;rw[this];rfl
 refine (AnyF.slices_SortFunc_none (P:=Tryz.prog) (ρ:=AU) { UE with } a cap (.func (.func 142) #[] #[]) w).mono ?_;rintro e w' ⟨rfl,rfl⟩;exact ⟨.tuple #[],D,rfl,⟨[],rfl,rfl⟩,⟨rfl,rfl,rfl,Z5 _,fun _ _=>rfl⟩,hD,fun _ _ h _=>h⟩
theorem Fh:aQ Tryz.prog 95 [enc ([]:List ah)] (enc (⟨[]⟩:iP)):=by
 refine aQ.bN Tryz.func95 Hz IJ JW (t8 rfl) (fun hwf W0 bH E1 =>?_);simp only[yJ,CY,bD];clear hwf;have h1:=tr [] (by simp);have R:=y6 @iz (y6 @jU aE)
 repeat' ((first |refine U.aI (by decide +kernel) rfl fun K hK =>?_|refine .lead _ (h1) ?_|refine .flat _ (ER) rfl ?_|(refine .aF [0,2,3] hK ?_;clear hK K)|(with_reducible refine .done (hK _ ?_);clear hK K)|refine U.of rfl ?_|(with_reducible refine ay.aG (fun h =>?_) (fun h =>?_) <;>try simp only[h])) <;>try simp only[aJ,R,simprocAttr])
 all_goals clear R
 all_goals rfl
end Go.Proofs.YtoffnnjbplgnaaaGreatDoor
namespace Go.Proofs.YtoffnnjbplgnaaaGreatDoor
open Go Go.Abs
open Go.Abs.Enc (enc)
theorem Eu{l:List ah}(h:dV [] l=true):l.length≤60:=by
 have:=eC.len (by simp) ((lT l []).1 h);simpa using this
theorem qA{l:List ah}(h:dV [] l=true):∀ r∈l,bf r=true:=eC.ok ((lT l []).1 h)
def nP(r:dc)(l:List ah):Bool:=dV [] l&&decide (r.du.all=bp 1 l)&&(List.range (l.length+1)).any fun i=>decide (r.copy.all=bp 1 (l.take i))
theorem FD{p:Nat→Bool}{n i:Nat}(hi:i<n)(h:∀ k,k<i→p k=false)(hp:p i=true):(List.range n).any p=true:=List.any_eq_true.2 ⟨i,by simpa using hi,hp⟩
theorem FC{p:Nat→Bool}{n:Nat}(h:∀ k,k<n→p k=false):(List.range n).any p=false:=by
 rw[List.any_eq_false];intro k hk;rw[h k (by simpa using hk)];decide
theorem Fc(r:dc)(h:r.small)(l:List ah)(hl:l.length≤4000000000000):aQ Tryz.prog 87 [enc r,enc l] (enc (nP r l)):=by
 refine aQ.bN Tryz.func87 Hu IE JR (t8 rfl) (fun hwf W0 bH E1 =>?_);simp only[yE,CT,bD,Z9];clear hwf;have f98:=Fi l (by omega);have f1:=oJ r.du h.1;have f2:=oJ r.copy h.2;simp only[nP];cases q1:dV [] l
 ·rw[q1] at f98;have R:=y6 @bl aE
  repeat' ((first |(with_reducible refine .guard (fun hb =>?_) (fun hb =>?_) <;>try simp only[hb])|refine U.aI (by decide +kernel) rfl fun K hK =>?_|refine .flat _ (f98) rfl ?_|(refine .aF [0,1,2,4,5,16,19,20,21,30] hK ?_;clear hK K)|(with_reducible refine .done (hK _ ?_);clear hK K)|refine U.of rfl ?_|(with_reducible refine ay.aG (fun h =>?_) (fun h =>?_) <;>try simp only[h])) <;>try simp only[aJ,R,simprocAttr])
  all_goals clear R
  all_goals rfl
 rw[q1] at f98;have hok:=qA q1;have hln:=Eu q1;have f135:=wW l (by omega) hok;have hpre:=fun i=>wW (l.take i) (by rw[Z6];omega) fun x hx=>hok x (List.mem_of_mem_take hx);cases q2:decide (r.du.all=bp 1 l)
 ·have R:=y6 @q2 (y6 @gK (y6 @bl aE))
  repeat' ((first |(with_reducible refine .guard (fun hb =>?_) (fun hb =>?_) <;>try simp only[hb])|refine U.aI (by decide +kernel) rfl fun K hK =>?_|refine .flat _ (f98) rfl ?_|refine .flat _ (f1) rfl ?_|refine .flat _ (f135) rfl ?_|(refine .aF [0,1,2,4,5,16,19,20,21,30] hK ?_;clear hK K)|(with_reducible refine .done (hK _ ?_);clear hK K)|refine U.of rfl ?_|(with_reducible refine ay.aG (fun h =>?_) (fun h =>?_) <;>try simp only[h])) <;>try simp only[aJ,R,simprocAttr])
  all_goals clear R
  all_goals rfl
 have hw0:=ez (i:=l.length) (by omega);have R:=y6 @q2 (y6 @hw0 (y6 @gK (y6 @bl aE)))
 repeat' ((first |(with_reducible refine .guard (fun hb =>?_) (fun hb =>?_) <;>try simp only[hb])|refine U.aI (by decide +kernel) rfl fun K hK =>?_|refine .flat _ (f98) rfl ?_|refine .flat _ (f1) rfl ?_|refine .flat _ (f135) rfl ?_|(refine .aF [0,1,2,4,5,16,19,20,21,30] hK ?_;clear hK K)|(with_reducible refine .done (hK _ ?_);clear hK K)|refine U.of rfl ?_|(with_reducible refine ay.aG (fun h =>?_) (fun h =>?_) <;>try simp only[h])) <;>try simp only[aJ,R,simprocAttr])
 all_goals clear R
 refine U.loop (fun i:Nat=>aw [(1,enc l),(2,.ptr 2 []),(19,.int .i64 ((l.length+1:Nat):Int)),(20,.int .i64 i)] [(2,.box (enc r))]) (fun i=>i≤l.length+1∧∀ k,k<i→decide (r.copy.all=bp 1 (l.take k))=false) (fun i=>l.length+1-i) 0 ⟨Nat.zero_le _,fun k hk=>by omega⟩ ?_ ?_
 ·refine bx.cJ ?_ ?_ ?_ ?_ <;>simp[cg,cq,cn,bP,aC,cd,ev,I.only,ai.only,bG]
  all_goals rfl
 rintro i ⟨hi,hk⟩;by_cases hlt:i<l.length+1
 ·have hlc:=eR hlt;have hw:=ez (i:=i) (by omega);have hsl:=fun A=>DQ (l:=l) (k:=i) A (esz:=8) rfl (by omega);have f135':=hpre i;cases q3:decide (r.copy.all=bp 1 (l.take i))
  ·have R:=y6 @hlc (y6 @hw (y6 @hsl (y6 @q3 (y6 @kh (y6 @bl aE)))))
   repeat' ((first |(with_reducible refine .guard (fun hb =>?_) (fun hb =>?_) <;>try simp only[hb])|refine U.aI (by decide +kernel) rfl fun K hK =>?_|refine .flat _ (f2) rfl ?_|refine .flat _ (f135') rfl ?_|(refine .aF [0,1,2,4,5,16,19,20,21,30] hK ?_;clear hK K)|(with_reducible refine .done (hK _ ?_);clear hK K)|refine U.of rfl ?_|(with_reducible refine ay.aG (fun h =>?_) (fun h =>?_) <;>try simp only[h])) <;>try simp only[aJ,R,zz3,simprocAttr])
   all_goals clear R
   refine ⟨i+1,⟨by omega,fun k hk2 =>?_⟩,by omega,?_⟩
   ·by_cases e:k=i
    ·rw[e];exact q3
    ·exact hk k (by omega)
   ·clear hk;refine bx.cJ ?_ ?_ ?_ ?_ <;>simp[cg,cq,cn,bP,aC,cd,ev,I.only,ai.only,bG]
    all_goals rfl
  ·rw[FD hlt hk q3];have R:=y6 @hlc (y6 @hw (y6 @hsl (y6 @q3 (y6 @kh (y6 @bl aE)))))
   repeat' ((first |(with_reducible refine .guard (fun hb =>?_) (fun hb =>?_) <;>try simp only[hb])|refine U.aI (by decide +kernel) rfl fun K hK =>?_|refine .flat _ (f2) rfl ?_|refine .flat _ (f135') rfl ?_|(refine .aF [0,1,2,4,5,16,19,20,21,30] hK ?_;clear hK K)|(with_reducible refine .done (hK _ ?_);clear hK K)|refine U.of rfl ?_|(with_reducible refine ay.aG (fun h =>?_) (fun h =>?_) <;>try simp only[h])) <;>try simp only[aJ,R,zz3,simprocAttr])
   all_goals clear R
   all_goals rfl
 ·have hlc:=fk hlt;rw[FC fun k hk2=>hk k (by omega)];have R:=y6 @hlc aE
  repeat' ((first |(with_reducible refine .guard (fun hb =>?_) (fun hb =>?_) <;>try simp only[hb])|refine U.aI (by decide +kernel) rfl fun K hK =>?_|(refine .aF [0,1,2,4,5,16,19,20,21,30] hK ?_;clear hK K)|(with_reducible refine .done (hK _ ?_);clear hK K)|refine U.of rfl ?_|(with_reducible refine ay.aG (fun h =>?_) (fun h =>?_) <;>try simp only[h])) <;>try simp only[aJ,R,simprocAttr])
  all_goals clear R
  all_goals rfl
section
variable {α:Type} [Enc α] {P:Program} {hs:List FuncId} {Y:Value→List I→List (Nat×ai)→b6→Prop} {K:ab→Prop} {rest:List ar} {d e esz bytes:Nat}
def lY(esz:Nat)(v:I)(os:List (Nat×ai))(l:List α)(S:List Nat):Prop:=(l=[]∧(v=.c0 esz∨v=.nils esz))∨∃ n q,n∈S∧v=.view n [] esz 0 l.length∧aH os n=some (.box (.agg ((l++q).map enc)))
theorem FO{A:ab}{w:I}(hw:w=.c0 esz∨w=.nils esz)(z:I){l:List α}(hsz:Enc.sz α=esz)(hl:l≠[])(hf:A.o d=none)(hb:l.length*bytes≤140737488355328)(hml:l.length≤maxLen) :
  ∃ p:Nat→Prop,eO A (some d) e esz bytes z (enc l) rest w=.any p fun m=>al rest ((A.aO d (.box (.agg (l.map enc++List.replicate m z)))).aM (some d) (.view d [] esz 0 l.length)):=by
 have hne:l.map (enc (α:=α))≠[]:=by simpa using hl
 have h1:cO A esz w=some []:=by rcases hw with rfl | rfl <;>rfl
 refine ⟨fun m=>l.length+m≤maxLen,?_⟩;rcases hw with rfl | rfl <;>simp only[eO,h1,ki A esz l hsz,eb,if_neg hne,eN,hf,zy1,Z9,Z2,if_pos (y6 hb hml),zz2]
theorem FN{A:ab}(z:I)(hsz:Enc.sz α=esz){n l:Nat}{xs ys:List α}(hy:ys≠[])(ho:A.o n=some (.box (.agg (xs.map enc))))(hl:l≤xs.length)(hr:xs.length<l+ys.length)(hf:A.o d=none)(hb:(l+ys.length)*bytes≤140737488355328)(hml:l+ys.length≤maxLen) :
  ∃ p:Nat→Prop,eO A (some d) e esz bytes z (enc ys) rest (.view n [] esz 0 l)=.any p fun m=>al rest ((A.aO d (.box (.agg ((xs.take l).map enc++(ys.map enc++List.replicate m z))))).aM (some d) (.view d [] esz 0 (l+ys.length))):=by
 have h1:=nc (A:=A) (esz:=esz) (lo:=0) (k:=l) ho (by omega);have h2:(I.agg (xs.map (enc (α:=α)))).at []=some (.agg (xs.map enc)):=rfl;have h4:(xs.take l).length=l:=by rw[Z6];omega
 refine ⟨fun m=>l+ys.length+m≤maxLen,?_⟩;simp only[eO,h1,List.drop_zero,ki A esz ys hsz,eb];rw[if_neg (by simpa using hy)];simp only[ho,h2,Z2,Z9];rw[if_neg (by omega)];simp only[eN,hf,Z2,h4];rw[if_pos ⟨hb,hml⟩]
theorem TZ(z:α){ts:List (Nat×I)}{os:List (Nat×ai)}{v:I}{l ys:List α}{S:List Nat}(hsz:Enc.sz α=esz)(hg:lY esz v os l S)(hf:aH os d=none)(hb:(l.length+ys.length)*bytes≤140737488355328)(hml:l.length+ys.length≤maxLen) :
  (∃ v' os',eO (aw ts os) (some d) e esz bytes (enc z) (enc ys) rest v=al rest (aw ((d,v')::ts) os')∧lY esz v' os' (l++ys) (d::S)∧∀ m,m∉d::S→aH os' m=aH os m) ∨
  (∃ p,∃ v':Nat→I,∃ os':Nat→List (Nat×ai),eO (aw ts os) (some d) e esz bytes (enc z) (enc ys) rest v=.any p (fun m=>al rest (aw ((d,v' m)::ts) (os' m)))∧∀ k,lY esz (v' k) (os' k) (l++ys) (d::S)∧∀ m,m∉d::S→aH (os' k) m=aH os m):=by
 by_cases hy:ys=[]
 ·subst hy;rw[zy6];rcases hg with ⟨rfl,hv⟩ | ⟨n,q,hn,rfl,ho⟩
  ·rcases hv with rfl | rfl
   ·exact .inl ⟨.c0 esz,os,FP _ hsz,.inl ⟨rfl,.inl rfl⟩,fun _ _=>rfl⟩
   ·refine .inl ⟨.nils esz,os,?_,.inl ⟨rfl,.inr rfl⟩,fun _ _=>rfl⟩;have h1:cO (aw ts os) esz (.nils esz)=some []:=rfl;simp only[eO,h1,ki _ esz ([]:List α) hsz,eb,zz0,if_true];rfl
  ·refine .inl ⟨_,os,?_,.inr ⟨n,q,List.mem_cons_of_mem _ hn,rfl,ho⟩,fun _ _=>rfl⟩;have h1:=nc (A:=aw ts os) (esz:=esz) (lo:=0) (k:=l.length) ho (by simp);simp only[eO,h1,ki _ esz ([]:List α) hsz,eb,zz0,if_true];rfl
 ·rcases hg with ⟨rfl,hv⟩ | ⟨n,q,hn,rfl,ho⟩
  ·obtain ⟨p,h1⟩:=FO (A:=aw ts os) (rest:=rest) (e:=e) hv (enc z) hsz hy hf (by simpa using hb) (by simpa using hml);refine .inr ⟨p,fun m=>.view d [] esz 0 ys.length,fun m=>(d,.box (.agg (ys.map enc++List.replicate m (enc z))))::os,h1,fun k=>⟨.inr ⟨d,List.replicate k z,List.mem_cons_self,by simp,?_⟩,fun m hm =>?_⟩⟩
   ·simp[aH]
   ·rw[ev,if_neg (fun h=>by rw[h] at hm;exact hm List.mem_cons_self)]
  ·by_cases hr:l.length+ys.length≤(l++q).length
   ·have h1:=xp (A:=aw ts os) (rest:=rest) (d:=some d) (e:=e) (bytes:=bytes) (esz:=esz) (enc z) hsz hy ho hr;have e1:(l++q).take l.length++(ys++(l++q).drop (l.length+ys.length))=(l++ys)++q.drop ys.length:=by simp[List.drop_append]
    rw[e1] at h1;refine .inl ⟨_,(n,.box (.agg (((l++ys)++q.drop ys.length).map enc)))::os,h1,.inr ⟨n,q.drop ys.length,List.mem_cons_of_mem _ hn,by simp,by simp[aH]⟩,fun m hm =>?_⟩;rw[ev,if_neg (fun h=>by rw[h] at hm;exact hm (List.mem_cons_of_mem _ hn))]
   ·obtain ⟨p,h1⟩:=FN (A:=aw ts os) (rest:=rest) (d:=d) (e:=e) (bytes:=bytes) (esz:=esz) (enc z) hsz hy ho (by simp) (by omega) hf hb hml;refine .inr ⟨p,fun m=>.view d [] esz 0 (l.length+ys.length),fun m=>(d,.box (.agg (((l++q).take l.length).map enc++(ys.map enc++List.replicate m (enc z)))))::os,h1,fun k=>⟨.inr ⟨d,List.replicate k z,List.mem_cons_self,by simp,?_⟩,fun m hm =>?_⟩⟩
    ·simp[aH]
    ·rw[ev,if_neg (fun h=>by rw[h] at hm;exact hm List.mem_cons_self)]
theorem bI.TW(z:α){ts:List (Nat×I)}{os:List (Nat×ai)}{v:I}{l ys:List α}{S:List Nat}(hsz:Enc.sz α=esz)(hg:lY esz v os l S)(hf:aH os d=none)(hb:(l.length+ys.length)*bytes≤140737488355328)(hml:l.length+ys.length≤maxLen)
  (h:∀ v' os',lY esz v' os' (l++ys) (d::S)→(∀ m,m∉d::S→aH os' m=aH os m)→bI P Y hs K (al rest (aw ((d,v')::ts) os'))):bI P Y hs K (eO (aw ts os) (some d) e esz bytes (enc z) (enc ys) rest v):=by
 rcases TZ (rest:=rest) (e:=e) z hsz hg hf hb hml (ts:=ts) with ⟨v',os',h1,h2,h3⟩ | ⟨p,v',os',h1,h2⟩
 ·rw[h1];exact h v' os' h2 h3
 ·rw[h1];exact .any fun m _=>h _ _ (h2 m).1 (h2 m).2
theorem TY{v:I}{os:List (Nat×ai)}{l:List α}{S:List Nat}{A:ab}(hsz:Enc.sz α=esz)(h:lY esz v os l S)(hA:∀ m∈S,A.o m=aH os m):aZ true A v=some (enc l):=by
 rcases h with ⟨rfl,rfl | rfl⟩ | ⟨n,q,hn,rfl,ho⟩
 ·simp only[aZ,gy,zz0,hsz]
 ·simp only[aZ,gy,zz0,hsz]
 ·have h1:aZ true A (.view n [] esz 0 l.length)=kL esz 0 l.length (some ((l++q).map enc)):=by
   rw[uL,hA n hn,ho];rfl
  rw[h1,ru hsz,zy7]
end
theorem TX{l:List ah}{x:I}{os' os0:List (Nat×ai)}{d:Nat}(h:qY l x os'):lY 8 (x.aR (bo [(7,d)])) (cY [(7,d)] os'++os0) l [d]:=by
 rcases h with ⟨hn,rfl | rfl,rfl⟩ | ⟨hn,k,rfl,rfl⟩
 ·exact .inl ⟨hn,.inr rfl⟩
 ·exact .inl ⟨hn,.inl rfl⟩
 ·refine .inr ⟨d,List.replicate k cD,by simp,?_,?_⟩
  ·simp[I.aR,bo]
  ·simp only[eT,mP,Z4,Y2,aH,cY,bo,if_true,ai.aR,I.aR]
def jg:dc:=⟨⟨[],[]⟩,⟨[],[]⟩⟩
theorem pg:I.agg [.agg [.aj ⟨#[]⟩,.aj ⟨#[]⟩],.agg [.aj ⟨#[]⟩,.aj ⟨#[]⟩]]=enc jg:=rfl
def oD(r:dc)(l s:List ah)(x:ah):dc×List ah×Int :=
 if x∈l then (r,l,0) else if (iT s x).2≠0 then (jg,[],(iT s x).2) else (⟨⟨r.du.bK,r.du.ep++cS (dF 1 l) x⟩,r.copy⟩,l++[x],0)
theorem Fu{s:List ah}{x:ah}(h:(iT s x).2=0):bf x=true:=by
 simp only[iT] at h;cases q:bf x
 ·rw[q] at h
  (repeat' split at h) <;>simp_all
 ·rfl
theorem D8:(∀ A n b rest (q:iP),dT A (some 1) n [] b (enc q) rest (some (.agg [.nils 8]))=al rest (A.aO n (.box (enc q)))) ∧
  (∀ A n rest (r:dc) (x y:List UInt8),dT A none n [0,1] (enc r) (enc (ak.of x)) rest (some (enc (ak.of y)))=al rest (A.aO n (.box (enc (⟨⟨r.du.bK,x⟩,r.copy⟩:dc))))) :=
 ⟨fun A n b rest q=>by rw[eK (s:=some 1) (v:=enc q) (old:=.agg [.nils 8]) (eY _) rfl rfl,fD],
  fun A n rest r x y=>by rw[eK (s:=none) (v:=enc (ak.of x)) (old:=enc (ak.of y)) (eY _) rfl rfl];rfl⟩
theorem Fe(r:dc)(h:r.small)(l s:List ah)(hl:l.length≤60)(hok:∀ x∈l,bf x=true)(hsl:s.length≤60)(h95:aQ Tryz.prog 95 [enc l] (enc (⟨s⟩:iP)))(x:ah) :
  aQ Tryz.prog 88 [enc r,enc l,enc x] (.tuple [enc (oD r l s x).1,enc (oD r l s x).2.1,enc (oD r l s x).2.2]):=by
 refine aQ.bN Tryz.func88 Hv IF JS (t8 rfl) (fun hwf W0 bH E1 =>?_);simp only[yF,CU,bD,Z9,Nat.reduceAdd];clear hwf;have f136:=EM l x (by omega);have f93:=tr l (by omega);have f44:=E5 s x (by omega);simp only[oD];cases q1:decide (x∈l)
 rotate_left
 ·rw[q1] at f136;rw[if_pos (of_decide_eq_true q1)];have R:=y6 @pg (y6 @fZ (y6 @bl aE))
  repeat' ((first |refine U.aI (by decide +kernel) rfl fun K hK =>?_|refine .flat _ (f136) rfl ?_|refine .lead _ (f93) ?_|(refine U.lP (gs:=uR) [] [(3,[3]),(6,[6])] [0,1,2,3,4,5] (by decide +kernel) (dH.of (by simp[jv,cd,Bb,I.only,bG])) fun K hK =>?_;simp only[j9,uR,List.getD_cons_zero,List.getD_cons_succ,R,simprocAttr])|(refine .aF [0,1,2,3,5,6,7,8,10,11,15,27] hK ?_;clear hK K)|(with_reducible refine .done (hK _ ?_);clear hK K)|refine U.of rfl ?_|(with_reducible refine ay.aG (fun h =>?_) (fun h =>?_) <;>try simp only[h])) <;>try simp only[aJ,R,simprocAttr])
  all_goals clear R
  all_goals rfl
 rw[q1] at f136;rw[if_neg (of_decide_eq_false q1)];by_cases q2:(iT s x).2=0
 rotate_left
 ·have q2':((iT s x).2 != 0)=true:=by simpa using q2
  rw[if_pos q2];generalize iT s x=p at *;have R:=y6 @pg (y6 @q2' (y6 @D8 (y6 @iz (y6 @fZ (y6 @bl aE)))))
  repeat' ((first |refine U.aI (by decide +kernel) rfl fun K hK =>?_|refine .flat _ (f136) rfl ?_|refine .lead _ (h95) ?_|refine .lead _ (f44) ?_|(refine .aF [0,1,2,3,5,6,7,8,10,11,15,27] hK ?_;clear hK K)|(with_reducible refine .done (hK _ ?_);clear hK K)|refine U.of rfl ?_|(with_reducible refine ay.aG (fun h =>?_) (fun h =>?_) <;>try simp only[h])) <;>try simp only[aJ,R,simprocAttr])
  all_goals clear R
  all_goals rfl
 have q2':((iT s x).2 != 0)=false:=by simp[q2]
 rw[if_neg (by simp[q2])];have hx:=Fu q2;have f137:=EN l (by omega) hok;have hin:=qu l;have f81:=oL (dF 1 l) hin x hx;have hll:=pI hin hx;have hadd:=eH r.du.ep (cS (dF 1 l) x) (by have:=h.1.2;omega);generalize iT s x=p at *;have hbs:gh 8 (some [enc x])=some (enc [x]):=oZ 8 x rfl;have R:=y6 @pg (y6 @q2' (y6 @hadd (y6 @D8 (y6 @iz (y6 @fZ (y6 @bl aE))))))
 repeat' ((first |refine U.aI (by decide +kernel) rfl fun K hK =>?_|refine .flat _ (f136) rfl ?_|refine .lead _ (h95) ?_|refine .lead _ (f44) ?_|refine .flat _ (f137) rfl ?_|refine .lead _ (f81) ?_|(refine .aF [0,1,2,3,5,6,7,8,10,11,15,27] hK ?_;clear hK K)|(with_reducible refine .done (hK _ ?_);clear hK K)|refine U.of rfl ?_|(with_reducible refine ay.aG (fun h =>?_) (fun h =>?_) <;>try simp only[h])) <;>try simp only[aJ,R,simprocAttr])
 all_goals clear R
 obtain ⟨r',hr'⟩:∃ r':dc,r'=⟨⟨r.du.bK,r.du.ep++cS (dF 1 l) x⟩,r.copy⟩:=⟨_,rfl⟩
 rw[←hr'];refine U.sub (bx.rz [3] 3 (x:=.ptr 3 []) (y:=.ref (enc r')) (ts':=[(1,enc l),(3,.ref (enc r')),(5,.ptr 5 []),(6,.ptr 6 [])]) (os':=[(6,.box (enc jg)),(5,.box (enc x))]) rfl ?_ ?_ ?_ ?_ ?_ ?_) ?_
 ·rw[uK];simp[nL,dx,aw,j0,aH,jU,mc]
 ·simp[dR,bP,ai.only,I.only,I.cH,bG]
 ·simp[cg,iX,cd,I.only,bG]
 ·simp[cq,dR,aH]
 ·simp[cn,aC,aH,I.only,bG]
 ·simp[bP,ai.only,bG]
 refine U.sub (bx.rz [5] 5 (x:=.ptr 5 []) (y:=.ref (enc x)) (ts':=[(1,enc l),(3,.ref (enc r')),(5,.ref (enc x)),(6,.ptr 6 [])]) (os':=[(6,.box (enc jg))]) rfl ?_ ?_ ?_ ?_ ?_ ?_) ?_
 ·rw[uK];simp[nL,dx,aw,j0,aH,jU,mc]
 ·simp[dR,bP,ai.only,bG]
 ·simp[cg,iX,cd,I.only,bG]
 ·simp[cq,dR,aH]
 ·simp[cn,aC,aH,I.only,bG]
 ·simp[bP,ai.only,bG]
 have R:=y6 @hbs (y6 @fj (y6 @fZ (y6 @bl aE)))
 repeat' ((first |refine U.aI (by decide +kernel) rfl fun K hK =>?_|refine .flat _ (8 [0,1,3,4,2,5,6,7,8] [(3,[]),(5,[]),(6,[6])]) rfl ?_|(refine .aF [0,1,2,3,5,6,7,8,10,11,15,27] hK ?_;clear hK K)|(with_reducible refine .done (hK _ ?_);clear hK K)|refine U.of rfl ?_|(with_reducible refine ay.aG (fun h =>?_) (fun h =>?_) <;>try simp only[h])) <;>try simp only[aJ,R,simprocAttr])
 all_goals clear R
 refine U.lP (gs:=uS) [] [(3,[]),(5,[]),(6,[6])] [0,1,3,4,2,5,6,7,8] (by decide +kernel) (dH.of (by simp[jv,cd,I.only,bG])) fun K hK =>?_
 try simp only[j9,uS,Z4,zz0,List.getD_cons_zero,List.getD_cons_succ,hbs,aE,ba,simprocAttr]
 refine .bz [(7,46)] [enc l] (qY l) (xe l (by omega)) eM.nil ⟨.inl ⟨(iG _ _).symm,bG _ _,eY _⟩,trivial⟩ ?_ ?_
 ·rintro x os' (⟨_,h | h,rfl⟩ | ⟨_,k,rfl,rfl⟩)
  ·subst h;exact dG.nil (fun _=>rfl) (fun h=>by cases h)
  ·subst h;exact dG.nil (fun _=>rfl) (fun h=>by cases h)
  ·exact dG.vu (fun p=>fW p _) (fun h=>by cases h) rfl (fun h=>by cases h) rfl (by decide)
 intro y os' hp;have hg:=TX (d:=46) (os0:=[(6,.box (enc jg))]) hp;have h6:∀ m,m≠46→aH (cY [(7,46)] os'++[(6,ai.box (enc jg))]) m=aH [(6,ai.box (enc jg))] m:=by
  intro m hm;rcases hp with ⟨_,_,rfl⟩ | ⟨_,k,_,rfl⟩
  ·rfl
  ·simp only[eT,cY,Z4,zz0,bo,if_true,Y2,zz2,aH,if_neg hm]
 generalize y.aR (bo [(7,46)])=v at hg ⊢;generalize cY [(7,46)] os'++[(6,ai.box (enc jg))]=os at hg h6 ⊢;have h49:aH os 49=none:=h6 49 (by decide)
 try simp only[fj,ba,simprocAttr]
 refine bI.TW (default:ah) (ys:=[x]) rfl hg h49 (by simp;omega) (by simp[maxLen];omega) fun v' os'' hg2 hk =>?_;have h66:aH os'' 6=some (.box (enc jg)):=by rw[hk 6 (by decide),h6 6 (by decide)];rfl
 try simp only[h66,fZ,ba,simprocAttr]
 have hf:∀ ts,aZ true (aw ts ((6,.box (enc r'))::os'')) v'=some (enc (l++[x])):=fun ts=>TY rfl hg2 fun m hm=>by
  have:m≠6:=by
   simp only[zy0,List.not_mem_nil,or_false] at hm;omega
  simp[aw,aH,this]
 refine .done (hK _ ?_);clear hK K;refine U.ret ?_;simp only[ba,simprocAttr]
 try simp only[hf,aE,ba,simprocAttr]
 all_goals rfl
def qz(r:dc)(l s:List ah)(x:ah):dc×List ah×Int:=if nP r l=false then (jg,[],84) else oD r l s x
theorem E0(r:dc)(h:r.small)(l s:List ah)(hl:l.length≤4000000000000)(hsl:s.length≤60)(h95:nP r l=true→aQ Tryz.prog 95 [enc l] (enc (⟨s⟩:iP)))(x:ah) :
  aQ Tryz.prog 35 [enc r,enc l,enc x] (.tuple [enc (qz r l s x).1,enc (qz r l s x).2.1,enc (qz r l s x).2.2]):=by
 refine aQ.bN Tryz.func35 Hd Im JA (t8 rfl) (fun hwf W0 bH E1 =>?_);simp only[yn,CD,bD,Z9,Nat.reduceAdd];clear hwf;have f:=Fc r h l hl;simp only[qz];cases q:nP r l
 ·rw[q] at f;have R:=y6 @pg (y6 @fZ (y6 @bl aE))
  repeat' ((first |refine U.aI (by decide +kernel) rfl fun K hK =>?_|refine .flat _ (f) rfl ?_|(refine .aF [0,1,2,3,5,6,7,8,12] hK ?_;clear hK K)|(with_reducible refine .done (hK _ ?_);clear hK K)|refine U.of rfl ?_|(with_reducible refine ay.aG (fun h =>?_) (fun h =>?_) <;>try simp only[h])) <;>try simp only[aJ,R,simprocAttr])
  all_goals clear R
  all_goals rfl
 rw[q] at f;have hw:dV [] l=true:=by simp only[nP,Z0] at q;exact q.1.1
 have f88:=Fe r h l s (Eu hw) (qA hw) hsl (h95 q) x;simp only[Bool.true_eq_false,if_false];generalize oD r l s x=p at *;have R:=y6 @pg (y6 @fZ (y6 @bl aE))
 repeat' ((first |refine U.aI (by decide +kernel) rfl fun K hK =>?_|refine .flat _ (f) rfl ?_|refine .lead _ (f88) ?_|(refine .aF [0,1,2,3,5,6,7,8,12] hK ?_;clear hK K)|(with_reducible refine .done (hK _ ?_);clear hK K)|refine U.of rfl ?_|(with_reducible refine ay.aG (fun h =>?_) (fun h =>?_) <;>try simp only[h])) <;>try simp only[aJ,R,simprocAttr])
 all_goals clear R
 all_goals rfl
end Go.Proofs.YtoffnnjbplgnaaaGreatDoor
namespace Go.Proofs.YtoffnnjbplgnaaaGreatDoor
open Go Go.Abs Go.RowKit
open Go.Abs.Enc (enc)
def gb(p:List Int)(i:Nat)(n:Int):Int:=if p=[] then 0 else bW (p.getD (i%p.length) 0) n
theorem WO(i n:Nat):(i:Int).tmod (n:Int)=((i%n:Nat):Int):=rfl
theorem tm(p:List Int)(i:Nat)(n:Int)(hn:n≠0)(hi:i≤1000)(hp:p.length≤1000000000000000):aQ Tryz.prog 121 [enc p,.int .i64 (i:Int),enc n] (enc (gb p i n)):=by
 refine aQ.bN Tryz.func121 Gz HO I3 (t8 rfl) (fun hwf W0 bH E1 =>?_);simp only[xK,B6,bD,Z9,Nat.reduceAdd];clear hwf;simp only[gb];by_cases h:p=[]
 ·have q:((p.length:Int)==0)=true:=by rw[h];rfl
  rw[if_pos h];have R:=y6 @q aE
  repeat' ((first |refine U.aI (by decide +kernel) rfl fun K hK =>?_|(refine .aF [0,1,2,6,9] hK ?_;clear hK K)|(with_reducible refine .done (hK _ ?_);clear hK K)|refine U.of rfl ?_|(with_reducible refine ay.aG (fun h =>?_) (fun h =>?_) <;>try simp only[h])) <;>try simp only[aJ,R,simprocAttr])
  all_goals clear R
  all_goals rfl
 ·have hpos:0<p.length:=List.length_pos_iff.2 h;have q:((p.length:Int)==0)=false:=by rw[beq_eq_false_iff_ne];omega
  have hnz:¬ (p.length:Int)=0:=by omega
  have hr:=WO i p.length;have hlt:i%p.length<p.length:=Nat.mod_lt _ hpos;have he:=fun A=>fm (A:=A) 1 hlt rfl;rw[if_neg h];have hg:p.getD (i%p.length) 0=p[i%p.length]:=by simp[Y7,hlt]
  rw[hg];generalize p[i%p.length]=x at *;have R:=y6 @q (y6 @hnz (y6 @hr (y6 @he (y6 @hn aE))))
  repeat' ((first |refine U.aI (by decide +kernel) rfl fun K hK =>?_|(refine .aF [0,1,2,6,9] hK ?_;clear hK K)|(with_reducible refine .done (hK _ ?_);clear hK K)|refine U.of rfl ?_|(with_reducible refine ay.aG (fun h =>?_) (fun h =>?_) <;>try simp only[h])) <;>try simp only[aJ,R,simprocAttr])
  all_goals clear R
  all_goals rfl
end Go.Proofs.YtoffnnjbplgnaaaGreatDoor
namespace Go.Proofs.YtoffnnjbplgnaaaGreatDoor
open Go Go.Abs
open Go.Abs.Enc (enc)
def tg(u:List UInt8)(p:List Int)(i:Nat):List UInt8:=u.take (gb p i (u.length+1:Nat)).toNat
def qn(w:List UInt8)(p:List Int)(i:Nat):List UInt8:=if gb p (i+1) 2=1∧0<w.length then w.set (gb p (i+2) (w.length:Nat)).toNat 63 else w
def wL(r:di)(p:List Int)(i:Nat):List UInt8:=r.bK++qn (tg r.ep p i) p i
def lp(r:di)(p:List Int)(i:Nat):di:=⟨wL r p i,[]⟩
theorem DV(w:List UInt8)(p:List Int)(i:Nat):(qn w p i).length=w.length:=by
 rw[qn];split <;>simp
theorem tJ{p:List Int}{i:Nat}{n:Nat}(hn:0<n∧n≤4611686018427387904)(hp:∀ x∈p,-9223372036854775808≤x∧x≤9223372036854775807):0≤gb p i (n:Nat)∧gb p i (n:Nat)<n:=by
 rw[gb];by_cases h:p=[]
 ·rw[if_pos h];omega
 ·rw[if_neg h];have hpos:0<p.length:=List.length_pos_iff.2 h;have hlt:i%p.length<p.length:=Nat.mod_lt _ hpos;have hm:p.getD (i%p.length) 0∈p:=by simp only[Y7,Y4 hlt,Option.getD_some];exact List.getElem_mem hlt
  rw[U4 (hp _ hm) (by omega)];exact ⟨Int.emod_nonneg _ (by omega),Int.emod_lt_of_pos _ (by omega)⟩
theorem xF:∀ l:List UInt8,me (l.map enc)=some l
 | []=>rfl
 |b::l=>by
  have h:=xF l;rw[Z4]
  show (match I.int .u8 (b.toNat:Int),me (l.map enc) with | .int .u8 n,some l=>some (UInt8.ofNat n.toNat::l) | _,_=>none)=_
  rw[h]
  show some (UInt8.ofNat ((b.toNat:Int)).toNat::l)=_
  simp
theorem oU(l:List UInt8):kC (some (l.map enc))=some (enc (ak.of l)):=by
 rw[kC,xF];rfl
theorem sY(A:ab)(t:List UInt8):jK A 1 (enc (ak.of t))=some (t.map enc):=rfl
theorem sP(n:Nat):List.replicate n (I.int .u8 0)=(List.replicate n (0:UInt8)).map enc:=by rw[List.map_replicate];rfl
def s7(sz z lo k:Nat):Option (List I)→Option (List I)
 |some fs=>if lo+k≤fs.length∧z=sz then some ((fs.drop lo).take k) else none
 |none=>none
theorem qo(A:ab)(sz n z lo k:Nat)(p:List Nat):jK A sz (.view n p z lo k)=s7 sz z lo k (dX (dx p (A.o n))):=by
 show cO A sz (.view n p z lo k)=_
 simp only[cO,jq,ft];cases dx p (A.o n) with
 |none=>rfl
 |some c=>cases c <;>rfl
theorem qp(l q:List UInt8){n:Nat}(h:n=l.length):s7 1 1 0 n (some ((l++q).map enc))=some (l.map enc):=by
 subst h;simp only[s7,Z2,List.drop_zero,←List.map_take,zy7];rw[if_pos ⟨by simp,trivial⟩]
theorem sZ(A:ab)(k n:Nat)(l:List UInt8)(hn:n=l.length)(h:A.o k=some (.box (.agg (l.map enc)))):cO A 1 (.view k [] 1 0 n)=some (l.map enc):=by
 subst hn;have e:=nc (A:=A) (esz:=1) (lo:=0) (k:=l.length) h (by simp);rw[List.drop_zero,List.take_length] at e;exact e
theorem zb{A:ab}{d:Option Nat}{z esz:Nat}{rest:List ar}{ys:List I} : jS A d esz (al rest) (.c0 z) (some ys)=al rest (A.aM d (.int .i64 0)):=rfl
theorem XA{n:Nat}{p:List Nat}{sz k:Nat} : iw n p sz 0 k k (some (.int .i64 k)) none none=some (.c0 sz):=by
 simp only[iw,gf];rw[if_pos ⟨by omega,by omega,by omega⟩,if_pos (by omega)]
theorem DO{A:ab}{n k i:Nat}{xs:List UInt8}(hk:k=xs.length)(hi:i<k)(h:A.o n=some (.box (.agg (xs.map enc)))):hG A 1 (some (.int .i64 i)) none none (.view n [] 1 0 k)=some (.view n [] 1 i (k-i)):=by
 subst hk;rw[wq,h]
 show lj n [] 1 0 xs.length 1 _ none none (some (xs.map enc))=_
 rw[wu,Z2,lR (by omega) (by omega) hi]
theorem DP{A:ab}{n k:Nat}{xs:List UInt8}(hk:k=xs.length)(h:A.o n=some (.box (.agg (xs.map enc)))):hG A 1 (some (.int .i64 k)) none none (.view n [] 1 0 k)=some (.c0 1):=by
 subst hk;rw[wq,h]
 show lj n [] 1 0 xs.length 1 _ none none (some (xs.map enc))=_
 rw[wu,Z2,XA]
theorem re{A:ab}{d:Option Nat}{n k m:Nat}{rest:List ar}{a:List UInt8}(hk:k=a.length+m)(h:A.o n=some (.box (.agg ((List.replicate k (0:UInt8)).map enc)))) :
  jS A d 1 (al rest) (.view n [] 1 0 k) (some (a.map enc))=al rest ((A.aO n (.box (.agg ((a++List.replicate m (0:UInt8)).map enc)))).aM d (.int .i64 (a.length:Nat))):=by
 subst hk;rw[nF (c:=a.length) h (by simp) (by omega)];simp
theorem za{A:ab}{d:Option Nat}{n i m:Nat}{rest:List ar}{a b:List UInt8}(hi:i=a.length)(hm:m=b.length)(h:A.o n=some (.box (.agg ((a++List.replicate m (0:UInt8)).map enc)))) :
  jS A d 1 (al rest) (.view n [] 1 i m) (some (b.map enc))=al rest ((A.aO n (.box (.agg ((a++b).map enc)))).aM d (.int .i64 (b.length:Nat))):=by
 subst hi hm;rw[nF (c:=b.length) h (by simp) (by omega)];simp
theorem xb(r:di)(hr:r.small)(p:List Int)(i:Nat)(hi:i≤900)(hp:p.length≤100000000000000)(hpi:∀ x∈p,-9223372036854775808≤x∧x≤9223372036854775807):aQ Tryz.prog 75 [enc r,enc p,.int .i64 (i:Int)] (enc (lp r p i)):=by
 obtain ⟨n1,hn1⟩:∃ n1:Nat,gb p i ((r.ep.length+1:Nat):Int)=(n1:Int):=Y0 (tJ (by have:=hr.2;omega) hpi).1;have hn1l:n1≤r.ep.length:=by have:=(tJ (p:=p) (i:=i) (n:=r.ep.length+1) (by have:=hr.2;omega) hpi).2;omega
 have hd:=hr.1;have hu:=hr.2;have e1:tg r.ep p i=r.ep.take n1:=by rw[tg,hn1];rfl
 have hnl:(r.ep.take n1).length=n1:=by rw[Z6];omega
 rw[lp,wL,e1];refine aQ.bN Tryz.func75 Hl Iu JI (t8 rfl) (fun hwf W0 bH E1 =>?_);simp only[c75,CK,bD,Z9,Nat.reduceAdd];clear hwf;have f1:=tm p i ((r.ep.length+1:Nat):Int) (by omega) (by omega) (by omega);have f2:=tm p (i+1) 2 (by omega) (by omega) (by omega);have hss:=mX (ak.of r.ep) (j:=n1) (by rw[ak.de];exact hn1l);rw[ak.de] at hss;have hs2:=sW (r.ep.take n1);have hl:=fun t=>mW t;have hw1:IntKind.i64.wrap (((r.ep.length:Nat):Int)+1)=((r.ep.length+1:Nat):Int):=by rw[dU _ (by omega) (by omega)];omega
 have hw2:IntKind.i64.wrap ((i:Int)+1)=((i+1:Nat):Int):=by rw[dU _ (by omega) (by omega)];omega
 have hw3:IntKind.i64.wrap ((i:Int)+2)=((i+2:Nat):Int):=by rw[dU _ (by omega) (by omega)];omega
 rw[hn1] at f1
 replace f2:aQ Tryz.prog 121 [enc p,.int .i64 ((i+1:Nat):Int),.int .i64 2] (.int .i64 (gb p (i+1) 2)):=f2
 replace f1:aQ Tryz.prog 121 [enc p,.int .i64 (i:Int),.int .i64 ((r.ep.length+1:Nat):Int)] (.int .i64 (n1:Int)):=f1
 obtain ⟨l2,hl2⟩:∃ l2,qn (r.ep.take n1) p i=l2:=⟨_,rfl⟩
 have hl2n:l2.length=n1:=by rw[←hl2,DV,hnl]
 rw[hl2];rw[qn] at hl2;generalize r.ep.take n1=w at *;have hpi':=hpi;clear e1;have hiv:=trivial;have hat:=trivial;have hst:=trivial;have f3:=f2;rcases Nat.eq_zero_or_pos n1 with h0 | h0
 ·have hw0:l2=w:=by
   rw[if_neg] at hl2
   ·exact hl2.symm
   ·intro h;omega
  subst hw0;have hg:decide ((n1:Int)>0)=false:=decide_eq_false (by omega);cases hb:gb p (i+1) 2==1
  ·generalize gb p (i+1) 2=a2 at *;have hw4:IntKind.i64.wrap ((r.bK.length:Int)+(n1:Int))=((r.bK.length+n1:Nat):Int):=by rw[dU _ (by omega) (by omega)];omega
   have hmk:=fun (A:ab) (rest:List ar)=>sh (A:=A) (d:=44) (bytes:=1) (z:=.int .u8 0) (rest:=rest) (n:=r.bK.length+n1) (by omega) (by unfold maxLen;omega);have hcp:=fun (A:ab) (rest:List ar)=>re (A:=A) (d:=some 48) (n:=44) (k:=r.bK.length+n1) (m:=n1) (rest:=rest) (a:=r.bK) rfl;have hcv:=fun (q:List UInt8)=>qp l2 q (n:=n1) hl2n.symm;have hsb:=fun (A:ab)=>sZ A 44 (r.bK.length+n1) (r.bK++l2) (by simp[hl2n]);have hbs:=oU (r.bK++l2);have hce:=fun (A:ab)=>sY A r.bK;have hl0:l2=[]:=zz9 (by omega);have hsl:=fun (A:ab)=>DP (A:=A) (n:=44) (k:=r.bK.length+n1) (xs:=r.bK++List.replicate n1 0) (by simp);have hn:((r.bK.length+n1:Nat):Int)=(r.bK.length:Int):=by omega
   have hrp:r.bK++List.replicate n1 (0:UInt8)=r.bK++l2:=by rw[hl0,h0];rfl
   rw[hn,hrp] at hsl;rw[hrp] at hcp;have R:=y6 @hg (y6 @mu (y6 @qo (y6 @lJ (y6 @sP (y6 @hw1 (y6 @hw2 (y6 @hw3 (y6 @hw4 (y6 @hb (y6 @hnl (y6 @hmk (y6 @hcp (y6 @hcv (y6 @hsb (y6 @hbs (y6 @hce (y6 @hsl (y6 @zb (y6 @jr (y6 @fZ (y6 @kE (y6 @hl (y6 @hss (y6 @hs2 (y6 @bl (y6 @r7 aE))))))))))))))))))))))))))
   repeat' ((first |(with_reducible refine .guard (fun hb =>?_) (fun hb =>?_) <;>try simp only[hb])|(refine U.lP (gs:=kO) [] [] [0,1,2,3,4,5,6,7,8,9,10,11] (by decide +kernel) (dH.of (by simp[jv])) fun K hK =>?_;simp only[j9,kO,List.getD_cons_zero,List.getD_cons_succ,R,simprocAttr])|refine bI.ef rfl fun m =>?_|refine U.aI (by decide +kernel) rfl fun K hK =>?_|refine .flat _ (f1) rfl ?_|refine .flat _ (f2) rfl ?_|(refine .aF [0,1,2,3,6,7,8,29] hK ?_;clear hK K)|(with_reducible refine .done (hK _ ?_);clear hK K)|refine U.of rfl ?_|(with_reducible refine ay.aG (fun h =>?_) (fun h =>?_) <;>try simp only[h])) <;>try simp only[aJ,R,zz3,simprocAttr])
   all_goals clear R
   all_goals rfl
  ·generalize gb p (i+1) 2=a2 at *;have hw4:IntKind.i64.wrap ((r.bK.length:Int)+(n1:Int))=((r.bK.length+n1:Nat):Int):=by rw[dU _ (by omega) (by omega)];omega
   have hmk:=fun (A:ab) (rest:List ar)=>sh (A:=A) (d:=44) (bytes:=1) (z:=.int .u8 0) (rest:=rest) (n:=r.bK.length+n1) (by omega) (by unfold maxLen;omega);have hcp:=fun (A:ab) (rest:List ar)=>re (A:=A) (d:=some 48) (n:=44) (k:=r.bK.length+n1) (m:=n1) (rest:=rest) (a:=r.bK) rfl;have hcv:=fun (q:List UInt8)=>qp l2 q (n:=n1) hl2n.symm;have hsb:=fun (A:ab)=>sZ A 44 (r.bK.length+n1) (r.bK++l2) (by simp[hl2n]);have hbs:=oU (r.bK++l2);have hce:=fun (A:ab)=>sY A r.bK;have hl0:l2=[]:=zz9 (by omega);have hsl:=fun (A:ab)=>DP (A:=A) (n:=44) (k:=r.bK.length+n1) (xs:=r.bK++List.replicate n1 0) (by simp);have hn:((r.bK.length+n1:Nat):Int)=(r.bK.length:Int):=by omega
   have hrp:r.bK++List.replicate n1 (0:UInt8)=r.bK++l2:=by rw[hl0,h0];rfl
   rw[hn,hrp] at hsl;rw[hrp] at hcp;have R:=y6 @hg (y6 @mu (y6 @qo (y6 @lJ (y6 @sP (y6 @hw1 (y6 @hw2 (y6 @hw3 (y6 @hw4 (y6 @hb (y6 @hnl (y6 @hmk (y6 @hcp (y6 @hcv (y6 @hsb (y6 @hbs (y6 @hce (y6 @hsl (y6 @zb (y6 @jr (y6 @fZ (y6 @kE (y6 @hl (y6 @hss (y6 @hs2 (y6 @bl (y6 @r7 aE))))))))))))))))))))))))))
   repeat' ((first |(with_reducible refine .guard (fun hb =>?_) (fun hb =>?_) <;>try simp only[hb])|(refine U.lP (gs:=kO) [] [] [0,1,2,3,4,5,6,7,8,9,10,11] (by decide +kernel) (dH.of (by simp[jv])) fun K hK =>?_;simp only[j9,kO,List.getD_cons_zero,List.getD_cons_succ,R,simprocAttr])|refine bI.ef rfl fun m =>?_|refine U.aI (by decide +kernel) rfl fun K hK =>?_|refine .flat _ (f1) rfl ?_|refine .flat _ (f2) rfl ?_|(refine .aF [0,1,2,3,6,7,8,29] hK ?_;clear hK K)|(with_reducible refine .done (hK _ ?_);clear hK K)|refine U.of rfl ?_|(with_reducible refine ay.aG (fun h =>?_) (fun h =>?_) <;>try simp only[h])) <;>try simp only[aJ,R,zz3,simprocAttr])
   all_goals clear R
   all_goals rfl
 ·have hg:decide ((n1:Int)>0)=true:=decide_eq_true (by omega);cases hb:gb p (i+1) 2==1
  ·have hw0:l2=w:=by
    rw[if_neg] at hl2
    ·exact hl2.symm
    ·intro h;rw[h.1] at hb;cases hb
   subst hw0;generalize gb p (i+1) 2=a2 at *;have hw4:IntKind.i64.wrap ((r.bK.length:Int)+(n1:Int))=((r.bK.length+n1:Nat):Int):=by rw[dU _ (by omega) (by omega)];omega
   have hmk:=fun (A:ab) (rest:List ar)=>sh (A:=A) (d:=44) (bytes:=1) (z:=.int .u8 0) (rest:=rest) (n:=r.bK.length+n1) (by omega) (by unfold maxLen;omega);have hcp:=fun (A:ab) (rest:List ar)=>re (A:=A) (d:=some 48) (n:=44) (k:=r.bK.length+n1) (m:=n1) (rest:=rest) (a:=r.bK) rfl;have hcv:=fun (q:List UInt8)=>qp l2 q (n:=n1) hl2n.symm;have hsb:=fun (A:ab)=>sZ A 44 (r.bK.length+n1) (r.bK++l2) (by simp[hl2n]);have hbs:=oU (r.bK++l2);have hce:=fun (A:ab)=>sY A r.bK;have hsl:=fun (A:ab)=>DO (A:=A) (n:=44) (k:=r.bK.length+n1) (i:=r.bK.length) (xs:=r.bK++List.replicate n1 0) (by simp) (by omega);rw[Nat.add_sub_cancel_left] at hsl;have hcb:=fun (A:ab) (rest:List ar)=>za (A:=A) (d:=some 55) (n:=44) (i:=r.bK.length) (m:=n1) (rest:=rest) (a:=r.bK) (b:=l2) rfl hl2n.symm;have R:=y6 @hg (y6 @hiv (y6 @hat (y6 @hst (y6 @pB (y6 @mu (y6 @qo (y6 @lJ (y6 @sP (y6 @hw1 (y6 @hw2 (y6 @hw3 (y6 @hw4 (y6 @hb (y6 @hnl (y6 @hmk (y6 @hcp (y6 @hcv (y6 @hsb (y6 @hbs (y6 @hce (y6 @hsl (y6 @hcb (y6 @jr (y6 @fZ (y6 @kE (y6 @hl (y6 @hss (y6 @hs2 (y6 @bl (y6 @r7 aE))))))))))))))))))))))))))))))
   repeat' ((first |(with_reducible refine .guard (fun hb =>?_) (fun hb =>?_) <;>try simp only[hb])|(refine U.lP (gs:=kO) [] [] [0,1,2,3,4,5,6,7,8,9,10,11] (by decide +kernel) (dH.of (by simp[jv])) fun K hK =>?_;simp only[j9,kO,List.getD_cons_zero,List.getD_cons_succ,R,simprocAttr])|refine bI.ef rfl fun m =>?_|refine U.aI (by decide +kernel) rfl fun K hK =>?_|refine .flat _ (f1) rfl ?_|refine .flat _ (f2) rfl ?_|refine .flat _ (f3) rfl ?_|(refine .aF [0,1,2,3,6,7,8,29] hK ?_;clear hK K)|(with_reducible refine .done (hK _ ?_);clear hK K)|refine U.of rfl ?_|(with_reducible refine ay.aG (fun h =>?_) (fun h =>?_) <;>try simp only[h])) <;>try simp only[aJ,R,zz3,simprocAttr])
   all_goals clear R
   all_goals rfl
  ·obtain ⟨j,hj,hjn⟩:∃ j:Nat,gb p (i+2) (n1:Int)=(j:Int)∧j<n1:=by
    have:=tJ (p:=p) (i:=i+2) (n:=n1) (by omega) hpi';obtain ⟨j,hj⟩:=Y0 this.1;exact ⟨j,hj,by omega⟩
   have hw0:w.set j 63=l2:=by
    rw[if_pos ⟨by simpa using hb,by omega⟩,hnl,hj] at hl2;exact hl2
   clear f3 hiv hat hst;have f3:=tm p (i+2) (n1:Int) (by omega) (by omega) (by omega);rw[hj] at f3
   replace f3:aQ Tryz.prog 121 [enc p,.int .i64 ((i+2:Nat):Int),.int .i64 (n1:Int)] (.int .i64 (j:Int)):=f3
   have hiv:=fun (fs:List I)=>AK (m:=19) (sz:=1) (lo:=0) (l:=n1) (i:=j) (fs:=fs) hjn;rw[Z9] at hiv;have hat:∀ q:List UInt8,jk j [] (some ((w++q).map enc))=some (enc w[j]):=fun q=>by
    have h2:((w++q).map (enc (α:=UInt8)))[j]?=some (enc w[j]):=by
     rw[zz6,zz7 (by omega),Y4 (by omega)];rfl
    simp only[jk,h2,mb,mc]
   have hst:∀ (A:ab) (q:List UInt8) (u:UInt8) (rest:List ar),dT A none 19 [j] (.agg ((w++q).map enc)) (.int .u8 63) rest (some (enc u))=al rest (A.aO 19 (.box (.agg ((l2++q).map enc)))):=fun A q u rest=>by
    have:=D7 (A:=A) (n:=19) (i:=j) (xs:=w++q) 63 u (rest:=rest) rfl (by simp;omega);rw[List.set_append_left _ _ (by omega),hw0] at this;exact this
   generalize gb p (i+1) 2=a2 at *;have hw4:IntKind.i64.wrap ((r.bK.length:Int)+(n1:Int))=((r.bK.length+n1:Nat):Int):=by rw[dU _ (by omega) (by omega)];omega
   have hmk:=fun (A:ab) (rest:List ar)=>sh (A:=A) (d:=44) (bytes:=1) (z:=.int .u8 0) (rest:=rest) (n:=r.bK.length+n1) (by omega) (by unfold maxLen;omega);have hcp:=fun (A:ab) (rest:List ar)=>re (A:=A) (d:=some 48) (n:=44) (k:=r.bK.length+n1) (m:=n1) (rest:=rest) (a:=r.bK) rfl;have hcv:=fun (q:List UInt8)=>qp l2 q (n:=n1) hl2n.symm;have hsb:=fun (A:ab)=>sZ A 44 (r.bK.length+n1) (r.bK++l2) (by simp[hl2n]);have hbs:=oU (r.bK++l2);have hce:=fun (A:ab)=>sY A r.bK;have hsl:=fun (A:ab)=>DO (A:=A) (n:=44) (k:=r.bK.length+n1) (i:=r.bK.length) (xs:=r.bK++List.replicate n1 0) (by simp) (by omega);rw[Nat.add_sub_cancel_left] at hsl;have hcb:=fun (A:ab) (rest:List ar)=>za (A:=A) (d:=some 55) (n:=44) (i:=r.bK.length) (m:=n1) (rest:=rest) (a:=r.bK) (b:=l2) rfl hl2n.symm;have R:=y6 @hg (y6 @hiv (y6 @hat (y6 @hst (y6 @pB (y6 @mu (y6 @qo (y6 @lJ (y6 @sP (y6 @hw1 (y6 @hw2 (y6 @hw3 (y6 @hw4 (y6 @hb (y6 @hnl (y6 @hmk (y6 @hcp (y6 @hcv (y6 @hsb (y6 @hbs (y6 @hce (y6 @hsl (y6 @hcb (y6 @jr (y6 @fZ (y6 @kE (y6 @hl (y6 @hss (y6 @hs2 (y6 @bl (y6 @r7 aE))))))))))))))))))))))))))))))
   repeat' ((first |(with_reducible refine .guard (fun hb =>?_) (fun hb =>?_) <;>try simp only[hb])|(refine U.lP (gs:=kO) [] [] [0,1,2,3,4,5,6,7,8,9,10,11] (by decide +kernel) (dH.of (by simp[jv])) fun K hK =>?_;simp only[j9,kO,List.getD_cons_zero,List.getD_cons_succ,R,simprocAttr])|refine bI.ef rfl fun m =>?_|refine U.aI (by decide +kernel) rfl fun K hK =>?_|refine .flat _ (f1) rfl ?_|refine .flat _ (f2) rfl ?_|refine .flat _ (f3) rfl ?_|(refine .aF [0,1,2,3,6,7,8,29] hK ?_;clear hK K)|(with_reducible refine .done (hK _ ?_);clear hK K)|refine U.of rfl ?_|(with_reducible refine ay.aG (fun h =>?_) (fun h =>?_) <;>try simp only[h])) <;>try simp only[aJ,R,zz3,simprocAttr])
   all_goals clear R
   all_goals rfl
def kj(r:dc)(p:List Int):dc:=⟨lp r.du p 0,lp r.copy p 3⟩
theorem tq(r:dc)(h:r.small)(p:List Int)(hp:p.length≤100000000000000)(hpi:∀ x∈p,-9223372036854775808≤x∧x≤9223372036854775807):aQ Tryz.prog 22 [enc r,enc p] (enc (kj r p)):=by
 refine aQ.bN Tryz.func22 G5 Ie Js (t8 rfl) (fun hwf W0 bH E1 =>?_);simp only[yf,Cv,bD,Z9];clear hwf;have f1:=xb r.du h.1 p 0 (by omega) hp hpi;have f2:=xb r.copy h.2 p 3 (by omega) hp hpi
 replace f1:aQ Tryz.prog 75 [enc r.du,enc p,.int .i64 0] (enc (lp r.du p 0)):=f1
 replace f2:aQ Tryz.prog 75 [enc r.copy,enc p,.int .i64 3] (enc (lp r.copy p 3)):=f2
 simp only[kj];generalize lp r.du p 0=a at *;generalize lp r.copy p 3=b at *;have R:=y6 @kE (y6 @jr (y6 @mf (y6 @zt (y6 @fZ aE))))
 repeat' ((first |refine U.aI (by decide +kernel) rfl fun K hK =>?_|refine .flat _ (f1) rfl ?_|refine .flat _ (f2) rfl ?_|(refine .aF [0,1,2,4] hK ?_;clear hK K)|(with_reducible refine .done (hK _ ?_);clear hK K)|refine U.of rfl ?_|(with_reducible refine ay.aG (fun h =>?_) (fun h =>?_) <;>try simp only[h])) <;>try simp only[aJ,R,simprocAttr])
 all_goals clear R
 all_goals rfl
def iq:ah:=⟨2,0,5,10,12,0,0,[97]⟩
def iC:List UInt8:=[51,55,52,56,51,55,32,50,32,48,32,53,32,49,48,32,49,50,32,48,32,48,32,97,10]
def cP:dc:=⟨⟨[],iC⟩,⟨[],[]⟩⟩
theorem K8:j2 1 iq=(iC,374837,0):=by decide +kernel
theorem Lb:kb 1 iC=(iq,374837,0):=by decide +kernel
theorem Ld:qz jg [] [] iq=(cP,[iq],0):=by decide +kernel
theorem K9:(j7 (kj cP [])).2=[]:=by decide +kernel
theorem La:(j7 (kj cP [25,0,0])).2=[iq]:=by decide +kernel
theorem Lc:(j7 (kj cP [25,1,3])).2=[]:=by decide +kernel
theorem K7:j7 (o7 (ou cP) false)=(⟨⟨iC,[]⟩,⟨iC,[]⟩⟩,[iq]):=by decide +kernel
theorem l9:iC.length=25:=rfl
theorem Fp:iC.drop 7=[50,32,48,32,53,32,49,48,32,49,50,32,48,32,48,32,97,10]:=rfl
theorem KX:I.agg [.agg [.int .i64 2,.int .i64 0],.int .i64 5,.int .i64 10,.int .i64 12,.agg [.int .i64 0,.int .i64 0],.aj ⟨#[97]⟩]=enc iq:=rfl
theorem wJ(p:List Int):(kj cP p).small:=by
 refine ⟨⟨?_,?_⟩,⟨?_,?_⟩⟩ <;>simp[kj,lp,wL,DV,tg,cP,l9] <;>omega
theorem tn:aQ Tryz.prog 14 [] (enc true):=by
 refine aQ.bN Tryz.func14 GQ HZ Jf (t8 rfl) (fun hwf W0 bH E1 =>?_);simp only[xV,Ci,bD];clear hwf;have f29:=w8 1 iq;rw[K8] at f29;have f31:=EZ 1 iC (by rw[l9];omega);rw[Lb] at f31;have f35:=E0 jg ⟨⟨by decide,by decide⟩,⟨by decide,by decide⟩⟩ [] [] (by decide) (by decide) (fun _=>Fh) iq;rw[Ld] at f35;have h0:cP.small:=by refine ⟨⟨?_,?_⟩,⟨?_,?_⟩⟩ <;>simp[cP,l9]
 have t1:=tq cP h0 [] (by simp) (by simp);have t2:=tq cP h0 [25,0,0] (by simp) (by simp);have t3:=tq cP h0 [25,1,3] (by simp) (by simp);have o1:=qE _ (wJ []);have o2:=qE _ (wJ [25,0,0]);have o3:=qE _ (wJ [25,1,3]);have f20:=EX cP h0;have f24:=EY (ou cP) false;have o4:=qE (o7 (ou cP) false) (by refine ⟨⟨?_,?_⟩,⟨?_,?_⟩⟩ <;>simp[ou,o7,cP,di.all,l9]);rw[K9] at o1;rw[La] at o2;rw[Lc] at o3;rw[K7] at o4;generalize kj cP []=T1 at *;generalize kj cP [25,0,0]=T2 at *;generalize kj cP [25,1,3]=T3 at *;generalize ou cP=T4 at *;generalize o7 T4 false=T5 at *;generalize (j7 T1).1=U1 at *;generalize (j7 T2).1=U2 at *;generalize (j7 T3).1=U3 at *
 dsimp only at f29 f31 f35 o4
 have hl:lG (enc (ak.of iC))=some (.int .i64 25):=by rw[mW,l9];rfl
 have hww:cP.du.ep=iC:=rfl;have hl2:(((ak.of iC).l.length:Nat):Int)=25:=by rw[ak.de,l9];rfl
 have hd1:decide (cP.copy=(⟨[],[]⟩:di))=true:=rfl;have hw7:IntKind.i64.wrap 7=7:=by decide
 have hl1:(((([iq]:List ah).length:Nat):Int)==1)=true:=rfl;have hn0:(((([]:List ah).length:Nat):Int)==0)=true:=rfl;have hse:bF .eql (enc (ak.of [50,32,48,32,53,32,49,48,32,49,50,32,48,32,48,32,97,10])) (.aj ⟨#[50,32,48,32,53,32,49,48,32,49,50,32,48,32,48,32,97,10]⟩)=some (.bool true):=by
  show bF .eql (enc (ak.of _)) (enc (ak.of [50,32,48,32,53,32,49,48,32,49,50,32,48,32,48,32,97,10]))=_
  rw[kh];simp
 have hp1:e9 [.int .i64 0,.int .i64 0] [(0,.int .i64 2)]=some [.int .i64 2,.int .i64 0]:=rfl;have hp2:e9 [.agg [.int .i64 0,.int .i64 0],.int .i64 0,.int .i64 0,.int .i64 0,.agg [.int .i64 0,.int .i64 0],.aj ⟨#[]⟩] [(0,.agg [.int .i64 2,.int .i64 0]),(1,.int .i64 5),(2,.int .i64 10),(3,.int .i64 12),(5,.aj ⟨#[97]⟩)]=some [.agg [.int .i64 2,.int .i64 0],.int .i64 5,.int .i64 10,.int .i64 12,.agg [.int .i64 0,.int .i64 0],.aj ⟨#[97]⟩]:=rfl;have hb2:gh 1 (some [.int .i64 25,.int .i64 0,.int .i64 0])=some (enc ([25,0,0]:List Int)):=rfl;have hb3:gh 1 (some [.int .i64 25,.int .i64 1,.int .i64 3])=some (enc ([25,1,3]:List Int)):=rfl;have hs:=we (ak.of iC) (i:=7) (by rw[ak.de,l9];omega);rw[ak.de,Fp] at hs
 replace hs:ej (.ss true false) [enc (ak.of iC),.int .i64 7]=some (enc (ak.of [50,32,48,32,53,32,49,48,32,49,50,32,48,32,48,32,97,10])):=hs
 have R:=y6 @hw7 (y6 @hl1 (y6 @hn0 (y6 @hse (y6 @hww (y6 @hl2 (y6 @hd1 (y6 @hl (y6 @hb2 (y6 @hb3 (y6 @hs (y6 @hp1 (y6 @hp2 (y6 @kh (y6 @KX (y6 @fj (y6 @eU (y6 @zt (y6 @jr (y6 @mf (y6 @fZ (y6 @kE (y6 @bl aE))))))))))))))))))))))
 repeat' ((first |(with_reducible refine .guard (fun hb =>?_) (fun hb =>?_) <;>try simp only[hb])|refine U.aI (by decide +kernel) rfl fun K hK =>?_|refine .flat _ (f29) rfl ?_|refine .flat _ (f31) rfl ?_|refine .flat _ (f35) rfl ?_|refine .flat _ (t1) rfl ?_|refine .flat _ (o1) rfl ?_|refine .flat _ (t2) rfl ?_|refine .flat _ (o2) rfl ?_|refine .flat _ (t3) rfl ?_|refine .flat _ (o3) rfl ?_|refine .flat _ (f20) rfl ?_|refine .flat _ (f24) rfl ?_|refine .flat _ (o4) rfl ?_|refine .lead _ (f35) ?_|refine .lead _ (o1) ?_|refine .lead _ (o2) ?_|refine .lead _ (o3) ?_|refine .lead _ (o4) ?_|(refine .aF [0,1,2,3,4,5,6,7,8,9,10,12,14,16,17,18,19,20] hK ?_;clear hK K)|(with_reducible refine .done (hK _ ?_);clear hK K)|refine U.of rfl ?_|(with_reducible refine ay.aG (fun h =>?_) (fun h =>?_) <;>try simp only[h])) <;>try simp only[aJ,R,eq_self,decide_true,simprocAttr])
 all_goals clear R
 all_goals rfl
theorem DY(A:ab)(sz n z lo k:Nat)(p:List Nat):cO A sz (.view n p z lo k)=s7 sz z lo k (dX (dx p (A.o n))):=qo A sz n z lo k p
def kl(l:List ah):List UInt8×Bool:=if l.all bf then (bp 1 l,true) else ([],false)
theorem w7(l:List ah)(hl:l.length≤4000000000000):aQ Tryz.prog 27 [enc l] (.tuple [enc (ak.of (kl l).1),enc (kl l).2]):=by
 refine aQ.bN Tryz.func27 G8 Ih Jv (t8 rfl) (fun hwf W0 bH E1 =>?_);simp only[yi,Cy,bD];clear hwf;have R:=y6 @bl aE
 repeat' ((first |refine U.aI (by decide +kernel) rfl fun K hK =>?_|(refine .aF [0,2,3,4,5,6,7,8,9,13,27] hK ?_;clear hK K)|(with_reducible refine .done (hK _ ?_);clear hK K)|refine U.of rfl ?_|(with_reducible refine ay.aG (fun h =>?_) (fun h =>?_) <;>try simp only[h])) <;>try simp only[aJ,R,simprocAttr])
 all_goals clear R
 refine U.loop (fun i:Nat=>aw [(0,enc l),(4,enc (ak.of (bp 1 (l.take i)))),(5,.int .i64 (dF 1 (l.take i))),(6,.int .i64 i)] []) (fun i=>i≤l.length∧(∀ r∈l.take i,bf r=true)) (fun i=>l.length-i) 0 ⟨Nat.zero_le _,by simp⟩ ?_ ?_
 ·refine bx.cJ ?_ ?_ ?_ ?_ <;>simp[cg,cq,cn,bP,cd,I.only,bG]
  all_goals exact ⟨rfl,rfl⟩
 rintro i ⟨hi,hk⟩;by_cases hlt:i<l.length
 ·have hlc:=eR hlt;have he:=fun A=>fm (A:=A) 8 hlt rfl;have hw:=ez (i:=i) (by omega);have hnx:=vC hlt hk;have hsn:=tc (l.take i) l[i] 1;rw[←hU hlt] at hsn;have hst:=qu (l.take i);have hin:ee 0 1000002 (dF 1 (l.take i))=true:=mi.2 (by omega);have hln:=oz (l.take i) (s:=1) (by omega) hk;have hli:(l.take i).length=i:=by rw[Z6];omega
  have hno:bf l[i]=false→kl l=([],false):=fun h=>by
   rw[kl,if_neg];intro h2;rw[Y5] at h2;rw[h2 _ (List.getElem_mem hlt)] at h;cases h
  have f29:=w8 (dF 1 (l.take i)) l[i];generalize l[i]=r at *;cases q:bf r
  ·rw[A1 hin q] at f29;rw[hno q];have R:=y6 @hlc (y6 @he (y6 @hw (y6 @bl aE)))
   repeat' ((first |refine U.aI (by decide +kernel) rfl fun K hK =>?_|refine .lead _ (f29) ?_|(refine .aF [0,2,3,4,5,6,7,8,9,13,27] hK ?_;clear hK K)|(with_reducible refine .done (hK _ ?_);clear hK K)|refine U.of rfl ?_|(with_reducible refine ay.aG (fun h =>?_) (fun h =>?_) <;>try simp only[h])) <;>try simp only[aJ,R,simprocAttr])
   all_goals clear R
   all_goals rfl
  ·rw[A4 hin q] at f29;have hll:=pI hst q;clear hno;generalize dF 1 (l.take i)=z at *;generalize bp 1 (l.take i)=u at *;have ha:=eH u (cS z r) (by omega);have R:=y6 @hlc (y6 @he (y6 @hw (y6 @ha (y6 @bl aE))))
   repeat' ((first |refine U.aI (by decide +kernel) rfl fun K hK =>?_|refine .lead _ (f29) ?_|(refine .aF [0,2,3,4,5,6,7,8,9,13,27] hK ?_;clear hK K)|(with_reducible refine .done (hK _ ?_);clear hK K)|refine U.of rfl ?_|(with_reducible refine ay.aG (fun h =>?_) (fun h =>?_) <;>try simp only[h])) <;>try simp only[aJ,R,simprocAttr])
   all_goals clear R
   refine ⟨i+1,⟨by omega,hnx q⟩,by omega,?_⟩;rw[hsn.1,hsn.2];clear hsn hnx;refine bx.cJ ?_ ?_ ?_ ?_ <;>simp[cg,cq,cn,bP,cd,I.only,bG]
   all_goals rfl
 ·have hlc:=fk hlt;have hge:i=l.length:=by omega
  subst hge;rw[List.take_length] at hk ⊢;have:kl l=(bp 1 l,true):=by rw[kl,if_pos (Y5.2 hk)]
  rw[this];have R:=y6 @hlc (y6 @bl aE)
  repeat' ((first |refine U.aI (by decide +kernel) rfl fun K hK =>?_|(refine .aF [0,2,3,4,5,6,7,8,9,13,27] hK ?_;clear hK K)|(with_reducible refine .done (hK _ ?_);clear hK K)|refine U.of rfl ?_|(with_reducible refine ay.aG (fun h =>?_) (fun h =>?_) <;>try simp only[h])) <;>try simp only[aJ,R,simprocAttr])
  all_goals clear R
  all_goals rfl
theorem jz(a:Int){n:Int}(hn:0<n∧n≤4611686018427387904):0≤bW a n∧bW a n<n:=by
 have h1:-n<a.tmod n∧a.tmod n<n:=⟨Int.lt_tmod_of_pos a hn.1,Int.tmod_lt_of_pos a hn.1⟩
 rw[bW,dU _ (by omega) (by omega)];exact ⟨Int.tmod_nonneg _ (by omega),Int.tmod_lt_of_pos _ hn.1⟩
def oy:List (List UInt8):=[[],[97],[98,101,97,115,116,32,49,55],[48,32,48,32,49,32,48,32,48,32,48],[32],[97,32,116,101,120,116,32,111,102,32,97,32,108,101,110,103,116,104,32,116,104,97,116,32,116,101,97,114,115,32,105,110,32,105,116,115,32,109,105,100,115,116]]
def ox(k:Int):List UInt8:=oy.getD k.toNat []
abbrev fg:=dQ 5 Int
def jf(l:List ah)(n:fg):ah :=
 if bW (n.g 1) 6=0∧0<dq l (bW (n.g 0) 3) then ⟨bW (n.g 0) 3,dq l (bW (n.g 0) 3),0,0,bW (n.g 3) 50,bW (n.g 0) 3,bW (n.g 2) (dq l (bW (n.g 0) 3)),[]⟩
 else ⟨bW (n.g 0) 3,dq l (bW (n.g 0) 3),if bW (n.g 1) 6=0 then 7 else bW (n.g 1) 6,bW (n.g 2) 50,bW (n.g 3) 50,0,0,ox (bW (n.g 4) 6)⟩
theorem T7{A:ab}{m:Nat}{a b c d e:Int}(h:A.o m=some (.box (.agg [.int .i64 a,.int .i64 b,.int .i64 c,.int .i64 d,.int .i64 e]))):gA A 5 1 0 (.ptr m [])=some (.ptr m [0])∧gA A 5 1 1 (.ptr m [])=some (.ptr m [1])∧gA A 5 1 2 (.ptr m [])=some (.ptr m [2])∧gA A 5 1 3 (.ptr m [])=some (.ptr m [3])∧gA A 5 1 4 (.ptr m [])=some (.ptr m [4]):=by
 refine ⟨?_,?_,?_,?_,?_⟩ <;>simp[gA,mh,gB,gQ,dx,dX,I.cZ,h,mc,fR,I.size]
theorem wP(a b c d e:Int):(I.agg [.int .i64 a,.int .i64 b,.int .i64 c,.int .i64 d,.int .i64 e]).cv=true:=rfl
theorem uu(a b c d e:Int):I.agg [.agg [.int .i64 a,.int .i64 b],.int .i64 c,.int .i64 d,.int .i64 e,.agg [.int .i64 0,.int .i64 0],.aj ⟨#[]⟩]=enc (⟨a,b,c,d,e,0,0,[]⟩:ah):=rfl
theorem tN:(∀ x y,e9 [.int .i64 0,.int .i64 0] [(0,.int .i64 x),(1,.int .i64 y)]=some [.int .i64 x,.int .i64 y]) ∧
  (∀ (x1 x2 n1 n2 n3:Int),e9 [.agg [.int .i64 0,.int .i64 0],.int .i64 0,.int .i64 0,.int .i64 0,.agg [.int .i64 0,.int .i64 0],.aj ⟨#[]⟩] [(0,.agg [.int .i64 x1,.int .i64 x2]),(1,.int .i64 n1),(2,.int .i64 n2),(3,.int .i64 n3)]=some [.agg [.int .i64 x1,.int .i64 x2],.int .i64 n1,.int .i64 n2,.int .i64 n3,.agg [.int .i64 0,.int .i64 0],.aj ⟨#[]⟩]) :=
 ⟨fun _ _=>rfl,fun _ _ _ _ _=>rfl⟩
theorem wz:(∀ A n rest (r:ah) (v u:Int),dT A none n [1] (enc r) (.int .i64 v) rest (some (.int .i64 u))=al rest (A.aO n (.box (enc ({r with kind:=v} : ah))))) ∧
  (∀ A n rest (r:ah) (v u:Int),dT A none n [2] (enc r) (.int .i64 v) rest (some (.int .i64 u))=al rest (A.aO n (.box (enc ({r with dW:=v} : ah))))) ∧
  (∀ A n rest (r:ah) (a b:Int) (o:Item),dT A (some 2) n [4] (enc r) (.agg [.int .i64 a,.int .i64 b]) rest (some (enc o))=al rest (A.aO n (.box (enc ({r with eS:=a,eZ:=b} : ah))))) ∧
  (∀ A n rest (r:ah) (x y:List UInt8),dT A none n [5] (enc r) (enc (ak.of x)) rest (some (enc (ak.of y)))=al rest (A.aO n (.box (enc ({r with text:=x} : ah))))) :=
 ⟨fun A n rest r v u=>by rw[eK (s:=none) (v:=.int .i64 v) (old:=.int .i64 u) rfl rfl rfl];rfl,
  fun A n rest r v u=>by rw[eK (s:=none) (v:=.int .i64 v) (old:=.int .i64 u) rfl rfl rfl];rfl,
  fun A n rest r a b o=>by rw[eK (s:=some 2) (v:=.agg [.int .i64 a,.int .i64 b]) (old:=enc o) rfl rfl rfl];rfl,
  fun A n rest r x y=>by rw[eK (s:=none) (v:=enc (ak.of x)) (old:=enc (ak.of y)) (eY _) rfl rfl];rfl⟩
theorem xD:gh 1 (some [.aj ⟨#[]⟩,.aj ⟨#[97]⟩,.aj ⟨#[98,101,97,115,116,32,49,55]⟩,.aj ⟨#[48,32,48,32,49,32,48,32,48,32,48]⟩,.aj ⟨#[32]⟩,.aj ⟨#[97,32,116,101,120,116,32,111,102,32,97,32,108,101,110,103,116,104,32,116,104,97,116,32,116,101,97,114,115,32,105,110,32,105,116,115,32,109,105,100,115,116]⟩])=some (enc (oy.map ak.of)):=tQ (ys:=oy.map ak.of) 1 rfl
theorem E9(l:List ah)(hl:l.length≤4000000000000)(hin:lE l)(n:fg):aQ Tryz.prog 78 [enc l,enc n] (enc (jf l n)):=by
 obtain ⟨n0,n1,n2,n3,n4,rfl⟩:∃ a b c d e:Int,n=⟨[a,b,c,d,e],rfl⟩:=by
  obtain ⟨l,h⟩:=n
  match l,h with
  | [a,b,c,d,e],_=>exact ⟨a,b,c,d,e,rfl⟩
 refine aQ.bN Tryz.func78 Hm Iv JJ (t8 rfl) (fun hwf W0 bH E1 =>?_);simp only[yx,CL,bD,Z9];clear hwf;have e5:enc (⟨[n0,n1,n2,n3,n4],rfl⟩:fg)=I.agg [.int .i64 n0,.int .i64 n1,.int .i64 n2,.int .i64 n3,.int .i64 n4]:=rfl;have hr:jf l ⟨[n0,n1,n2,n3,n4],rfl⟩=if bW n1 6=0∧0<dq l (bW n0 3) then ⟨bW n0 3,dq l (bW n0 3),0,0,bW n3 50,bW n0 3,bW n2 (dq l (bW n0 3)),[]⟩
   else ⟨bW n0 3,dq l (bW n0 3),if bW n1 6=0 then 7 else bW n1 6,bW n2 50,bW n3 50,0,0,ox (bW n4 6)⟩:=rfl
 rw[hr,e5];clear hr e5;have i5:=fun (A:ab) (h:A.o 3=some (.box (.agg [.int .i64 n0,.int .i64 n1,.int .i64 n2,.int .i64 n3,.int .i64 n4])))=>T7 h;have i0:=fun A h=>(i5 A h).1;have i1:=fun A h=>(i5 A h).2.1;have i2:=fun A h=>(i5 A h).2.2.1;have i3:=fun A h=>(i5 A h).2.2.2.1;have i4:=fun A h=>(i5 A h).2.2.2.2;clear i5;have f0:=kr n0 3 (by decide);have f1:=kr n1 6 (by decide);have f2:=kr n2 50 (by decide);have f3:=kr n3 50 (by decide);have f4:=kr n4 6 (by decide);have f102:=ED l hl hin;have p0:=jz n0 (n:=3) (by decide);have p4:=jz n4 (n:=6) (by decide);have hix:=u7 l (m:=bW n0 3) (by omega);have f5:dq l (bW n0 3)≠0→aQ Tryz.prog 28 [enc n2,enc ((dq l (bW n0 3):Nat):Int)] (enc (bW n2 (dq l (bW n0 3):Nat))):=fun h=>kr n2 _ (by omega);have htx:∀ A,iI A 1 (bW n4 6) (enc (oy.map ak.of))=some (.ref (enc (ak.of (ox (bW n4 6))))):=by
  intro A;obtain ⟨k,hk⟩:=Y0 p4.1;have hk6:k<(oy.map ak.of).length:=by simp[oy];omega
  rw[hk];refine (fm 1 hk6 rfl).trans ?_;rw[List.getElem_map,ox,Int.toNat_natCast,Y7,Y4 (by simpa using hk6)];rfl
 generalize bW n0 3=m0 at *;generalize dq l m0=c at *;generalize bW n1 6=m1 at *;generalize bW n2 50=m2 at *;generalize bW n3 50=m3 at *;generalize bW n4 6=m4 at *;generalize ox m4=tx at *;by_cases q1:m1=0
 ·subst q1;by_cases q2:0<c
  ·have f5':=f5 (by omega);have q2':decide ((c:Int)>0)=true:=decide_eq_true (by omega);rw[if_pos ⟨rfl,q2⟩];generalize bW n2 (c:Nat)=m5 at *;have R:=y6 @q2' (y6 @wP (y6 @fj (y6 @i0 (y6 @i1 (y6 @i2 (y6 @i3 (y6 @i4 (y6 @hix (y6 @tN (y6 @uu (y6 @eU (y6 @wz aE))))))))))))
   repeat' ((first |(with_reducible refine .guard (fun hb =>?_) (fun hb =>?_) <;>try simp only[hb])|refine U.aI (by decide +kernel) rfl fun K hK =>?_|refine .flat _ (f0) rfl ?_|refine .flat _ (f1) rfl ?_|refine .flat _ (f2) rfl ?_|refine .flat _ (f3) rfl ?_|refine .lead _ (f102) ?_|refine .flat _ (f5') rfl ?_|(refine .aF [0,1,3,4,5,6,7,35,49] hK ?_;clear hK K)|(with_reducible refine .done (hK _ ?_);clear hK K)|refine U.of rfl ?_|(with_reducible refine ay.aG (fun h =>?_) (fun h =>?_) <;>try simp only[h])) <;>try simp only[aJ,R,simprocAttr])
   all_goals clear R
   all_goals rfl
  ·have q2':decide ((c:Int)>0)=false:=decide_eq_false (by omega);rw[if_neg (by omega),if_pos rfl];have R:=y6 @q2' (y6 @wP (y6 @fj (y6 @i0 (y6 @i1 (y6 @i2 (y6 @i3 (y6 @i4 (y6 @hix (y6 @tN (y6 @uu (y6 @xD (y6 @htx (y6 @eU (y6 @wz aE))))))))))))))
   repeat' ((first |(with_reducible refine .guard (fun hb =>?_) (fun hb =>?_) <;>try simp only[hb])|refine U.aI (by decide +kernel) rfl fun K hK =>?_|refine .flat _ (f0) rfl ?_|refine .flat _ (f1) rfl ?_|refine .flat _ (f2) rfl ?_|refine .flat _ (f3) rfl ?_|refine .lead _ (f102) ?_|refine .flat _ (f4) rfl ?_|(refine .aF [0,1,3,4,5,6,7,35,49] hK ?_;clear hK K)|(with_reducible refine .done (hK _ ?_);clear hK K)|refine U.of rfl ?_|(with_reducible refine ay.aG (fun h =>?_) (fun h =>?_) <;>try simp only[h])) <;>try simp only[aJ,R,simprocAttr])
   all_goals clear R
   all_goals rfl
 ·have q1':(m1==0)=false:=by simpa using q1
  rw[if_neg (fun h=>q1 h.1),if_neg q1];have R:=y6 @q1' (y6 @wP (y6 @fj (y6 @i0 (y6 @i1 (y6 @i2 (y6 @i3 (y6 @i4 (y6 @hix (y6 @tN (y6 @uu (y6 @xD (y6 @htx (y6 @eU (y6 @wz aE))))))))))))))
  repeat' ((first |(with_reducible refine .guard (fun hb =>?_) (fun hb =>?_) <;>try simp only[hb])|refine U.aI (by decide +kernel) rfl fun K hK =>?_|refine .flat _ (f0) rfl ?_|refine .flat _ (f1) rfl ?_|refine .flat _ (f2) rfl ?_|refine .flat _ (f3) rfl ?_|refine .lead _ (f102) ?_|refine .flat _ (f4) rfl ?_|(refine .aF [0,1,3,4,5,6,7,35,49] hK ?_;clear hK K)|(with_reducible refine .done (hK _ ?_);clear hK K)|refine U.of rfl ?_|(with_reducible refine ay.aG (fun h =>?_) (fun h =>?_) <;>try simp only[h])) <;>try simp only[aJ,R,simprocAttr])
  all_goals clear R
  all_goals rfl
end Go.Proofs.YtoffnnjbplgnaaaGreatDoor
namespace Go.Proofs.YtoffnnjbplgnaaaGreatDoor
open Go Go.Abs Go.ChangeShapes Go.WideShapes Go.RowKit
open Go.Abs.Enc (enc)
theorem F1:lr Tryz.prog 66 fg fun _=>True:=(BK (n:=5) (e:=3) (by kernel_rfl) Bn (by kernel_rfl) (by decide)).BI
theorem Gt:Tryz.prog.bytesOf 66=40:=by kernel_rfl
theorem xv:lr Tryz.prog 39 (List fg) fun l=>l.length*40≤reachBytes:=by
 have h:=Wa (P:=Tryz.prog) (t:=39) (e:=66) (by kernel_rfl) F1 (by kernel_rfl);exact ⟨h.cells,h.pX,fun hx hw=>by
  obtain ⟨a,⟨-,h2⟩,h3⟩:=h.mH hx hw;rw[Gt] at h2;exact ⟨a,h2,h3⟩⟩
theorem F0:lr Tryz.prog 40 (dQ 2 Int) fun _=>True:=(BK (n:=2) (e:=3) (by kernel_rfl) Bn (by kernel_rfl) (by decide)).BI
end Go.Proofs.YtoffnnjbplgnaaaGreatDoor
namespace Go.Proofs.YtoffnnjbplgnaaaGreatDoor
open Go Go.Abs
open Go.Abs.Enc (enc)
def iM(out:List ah):List fg→List ah
 | []=>out
 |n::t=>iM (out++[jf out n]) t
def iL(l:List fg)(most:Int):List ah:=iM [] (l.take most.toNat)
theorem Db:∀ (l:List fg) (out:List ah) (n:fg),iM out (l++[n])=iM out l++[jf (iM out l) n]
 | [],_,_=>rfl
 |m::l,out,n=>by rw[Y2,iM,iM,Db l]
theorem WH(out:List ah)(n:fg):0≤(jf out n).bd∧(jf out n).bd≤2:=by
 have:=jz (n.g 0) (n:=3) (by decide);rw[jf];split <;>(simp only;omega)
theorem Da:∀ (l:List fg) (out:List ah),lE out→lE (iM out l)
 | [],_,h=>h
 |n::l,out,h=>Da l _ fun r hr=>by
  rcases Y8.1 hr with k | k
  ·exact h r k
  ·rw[zy2.1 k];have:=WH out n;omega
theorem vQ:∀ (l:List fg) (out:List ah),(iM out l).length=out.length+l.length
 | [],_=>rfl
 |n::l,out=>by rw[iM,vQ l];simp;omega
theorem C8(l:List fg)(most:Int):(iL l most).length≤l.length∧(iL l most).length≤most.toNat:=by
 rw[iL,vQ,zy1,Z6];omega
theorem UF:∀ q:fg,bS (some 5) (enc q)=true:=fun q=>by rw[gO];rfl
def tC(l:List fg)(most:Int)(x:Nat×List ah):ab:=aw [(0,enc l),(1,enc most),(5,.own 5 x.2.length),(6,.int .i64 (x.1:Int))] [(5,.bE 50 8 (x.2.map enc))]
theorem w6(l:List fg)(hl:l.length≤4000000000000)(most:Int)(hmo:most≤1000):aQ Tryz.prog 26 [enc l,enc most] (enc (iL l most)):=by
 refine aQ.bN Tryz.func26 G7 Ig Ju (t8 rfl) (fun hwf W0 bH E1 =>?_);simp only[yh,Cx,bD,Z9];clear hwf;have R:=aE
 repeat' ((first |(with_reducible refine .guard (fun hb =>?_) (fun hb =>?_) <;>try simp only[hb])|refine U.aI (by decide +kernel) rfl fun K hK =>?_|(refine .aF [0,1,4,5,6,15] hK ?_;clear hK K)|(with_reducible refine .done (hK _ ?_);clear hK K)|refine U.of rfl ?_|(with_reducible refine ay.aG (fun h =>?_) (fun h =>?_) <;>try simp only[h])) <;>try simp only[aJ,R,simprocAttr])
 all_goals clear R
 refine U.loop (tC l most) (fun x=>x.1≤l.length∧(x.1=0∨(x.1:Int)≤most)∧x.2=iM [] (l.take x.1)) (fun x=>l.length-x.1) (0,[]) ⟨Nat.zero_le _,.inl rfl,rfl⟩ ?_ ?_
 ·refine bx.Fz 5 5 50 8 8 rfl rfl ?_;simp only[tC,zy1,zz0];refine bx.cJ ?_ ?_ ?_ ?_ <;>simp[cg,cq,cn,bP,aC,cd,ev,I.only,I.cH,ai.only,bG,rn]
 rintro ⟨i,out⟩ ⟨hi,hm,ho⟩;simp only at hi hm ho;simp only[tC];have hfo:jX out.length (some (.bE 50 8 (out.map enc)))=some (enc out):=pn 8 rfl rfl;have hin:lE out:=by rw[ho];exact Da _ _ (fun r hr=>by cases hr)
 have hol:out.length=i:=by rw[ho,vQ,zy1,Z6];omega
 by_cases hlt:i<l.length
 rotate_left
 ·have hc:=fk hlt;have:iL l most=out:=by
   rw[ho,iL,List.take_of_length_le (by omega),List.take_of_length_le (by omega)]
  rw[this];have R:=y6 @hc (y6 @hfo aE)
  repeat' ((first |(with_reducible refine .guard (fun hb =>?_) (fun hb =>?_) <;>try simp only[hb])|refine U.aI (by decide +kernel) rfl fun K hK =>?_|(refine .aF [0,1,4,5,6,15] hK ?_;clear hK K)|(with_reducible refine .done (hK _ ?_);clear hK K)|refine U.of rfl ?_|(with_reducible refine ay.aG (fun h =>?_) (fun h =>?_) <;>try simp only[h])) <;>try simp only[aJ,R,simprocAttr])
  all_goals clear R
  all_goals rfl
 have hc:=eR hlt;by_cases hq:(i:Int)<most
 rotate_left
 ·have hd:decide ((i:Int)<most)=false:=decide_eq_false hq;have:iL l most=out:=by
   rw[ho,iL];congr 2;omega
  rw[this];have R:=y6 @hc (y6 @hd (y6 @hfo aE))
  repeat' ((first |(with_reducible refine .guard (fun hb =>?_) (fun hb =>?_) <;>try simp only[hb])|refine U.aI (by decide +kernel) rfl fun K hK =>?_|(refine .aF [0,1,4,5,6,15] hK ?_;clear hK K)|(with_reducible refine .done (hK _ ?_);clear hK K)|refine U.of rfl ?_|(with_reducible refine ay.aG (fun h =>?_) (fun h =>?_) <;>try simp only[h])) <;>try simp only[aJ,R,simprocAttr])
  all_goals clear R
  all_goals rfl
 have hd:decide ((i:Int)<most)=true:=decide_eq_true hq;have he:=fun A=>fm (A:=A) 5 hlt rfl;have hw:=ez (i:=i) (by omega);have hnx:out++[jf out l[i]]=iM [] (l.take (i+1)):=by
  rw[hU hlt,Db,←ho]
 have f78:=E9 out (by omega) hin l[i];have hbs:∀ x:ah,gh 8 (some [enc x])=some (enc [x]):=fun x=>oZ 8 x rfl;generalize jf out l[i]=x at *;generalize l[i]=n at *;have hap:=fun (A:ab) d rest=>xn (A:=A) (d:=d) 50 8 72 5 (l:=out.length) (es:=out) (ys:=[x]) (rest:=rest) rfl rfl (by simp) (by simp[maxLen];omega) (by simp;omega);have R:=y6 @hc (y6 @hd (y6 @he (y6 @hw (y6 @hfo (y6 @hbs (y6 @hap (y6 @UF (y6 @fj aE))))))))
 repeat' ((first |(with_reducible refine .guard (fun hb =>?_) (fun hb =>?_) <;>try simp only[hb])|refine U.aI (by decide +kernel) rfl fun K hK =>?_|refine .lead _ (f78) ?_|(refine .aF [0,1,4,5,6,15] hK ?_;clear hK K)|(with_reducible refine .done (hK _ ?_);clear hK K)|refine U.of rfl ?_|(with_reducible refine ay.aG (fun h =>?_) (fun h =>?_) <;>try simp only[h])) <;>try simp only[aJ,R,simprocAttr])
 all_goals clear R
 refine ⟨(i+1,out++[x]),⟨by simp only;omega,.inr (by simp only;omega),hnx⟩,by simp only;omega,?_⟩;simp only[];refine bx.cJ ?_ ?_ ?_ ?_ <;>simp[cg,cq,cn,bP,aC,cd,ev,I.only,I.cH,ai.only,pU,V8,bG]
 all_goals rfl
theorem XK{k:Int}(h:0≤k∧k<6):fK (ox k)=true:=by
 have:k=0∨k=1∨k=2∨k=3∨k=4∨k=5:=by omega
 rcases this with rfl | rfl | rfl | rfl | rfl | rfl <;>decide +kernel
theorem WI{out:List ah}(hl:out.length<60)(n:fg):bf (jf out n)=true∧da out (jf out n)=true:=by
 have p0:=jz (n.g 0) (n:=3) (by decide);have p1:=jz (n.g 1) (n:=6) (by decide);have p2:=jz (n.g 2) (n:=50) (by decide);have p3:=jz (n.g 3) (n:=50) (by decide);have p4:=XK (jz (n.g 4) (n:=6) (by decide));have hc:=ud out (bW (n.g 0) 3);have p5:0<dq out (bW (n.g 0) 3)→0≤bW (n.g 2) (dq out (bW (n.g 0) 3):Nat)∧bW (n.g 2) (dq out (bW (n.g 0) 3):Nat)<(dq out (bW (n.g 0) 3):Nat):=fun h=>jz _ (by omega);have hx:∀ x:Item,(0≤x.bd∧x.bd≤5)∧0≤x.no∧x.no≤9999→gT x=true:=fun x h=>pS.2 h;rw[jf];obtain ⟨m,hm⟩:∃ m,m=bW (n.g 0) 3:=⟨_,rfl⟩
 rw[←hm] at p0 hc p5 ⊢;obtain ⟨c,hcc⟩:∃ c,c=dq out m:=⟨_,rfl⟩
 rw[←hcc] at hc p5 ⊢;split
 ·rename_i h;have p6:=p5 h.2;generalize bW (n.g 2) (c:Nat)=w at *;refine ⟨?_,by rw[da,decide_eq_true hl];simp only[←hcc,decide_true,Bool.and_self]⟩;simp only[bf,fy,ah.bB,ah.fx,if_true,mD,Z0,mi,decide_eq_true_eq,beq_iff_eq,pS];refine ⟨⟨⟨by omega,by omega⟩,by omega,by omega,by omega,by decide +kernel⟩,trivial,trivial,⟨by omega,by omega⟩,trivial,by omega⟩
 ·rename_i h;generalize bW (n.g 1) 6=k1 at *;have hk:¬ (if k1=0 then (7:Int) else k1)=0:=by split <;>omega
  have hk2:0≤(if k1=0 then (7:Int) else k1)∧(if k1=0 then (7:Int) else k1)≤40:=by split <;>omega
  refine ⟨?_,by rw[da,decide_eq_true hl];simp only[←hcc,decide_true,Bool.and_self]⟩;simp only[bf,fy,ah.bB,ah.fx,if_neg hk,Z0,mi,decide_eq_true_eq,pS];refine ⟨⟨⟨by omega,by omega⟩,hk2,by omega,by omega,p4⟩,trivial⟩
theorem Et:∀ (a out b:List ah),dV out (a++b)=(dV out a&&dV (out++a) b)
 | [],out,b=>by simp[dV]
 |r::a,out,b=>by rw[Y2,dV,dV,Et a,Z3,List.singleton_append];simp only[Bool.and_assoc]
theorem XZ{a:List ah}{r:ah} : dV [] (a++[r])=true↔dV [] a=true∧bf r=true∧da a r=true:=by
 rw[Et];simp[dV]
theorem Dc:∀ (l:List fg) (out:List ah),out.length+l.length≤60→dV [] out=true→dV [] (iM out l)=true
 | [],_,_,h=>h
 |n::l,out,hl,h=>by
  rw[zz4] at hl;obtain ⟨h1,h2⟩:=WI (out:=out) (by omega) n;exact Dc l _ (by rw[Z1,List.length_singleton];omega) (XZ.2 ⟨h,h1,h2⟩)
theorem C9(l:List fg){most:Int}(h:most≤60):dV [] (iL l most)=true :=
 Dc _ _ (by rw[zy1,Z6];omega) rfl
theorem Ay{A:ab}{m:Nat}{a b:Int}(h:A.o m=some (.box (.agg [.int .i64 a,.int .i64 b]))):gA A 2 1 0 (.ptr m [])=some (.ptr m [0])∧gA A 2 1 1 (.ptr m [])=some (.ptr m [1]):=by
 refine ⟨?_,?_⟩ <;>simp[gA,mh,gB,gQ,dx,dX,I.cZ,h,mc,fR,I.size]
theorem wO(a b:Int):(I.agg [.int .i64 a,.int .i64 b]).cv=true:=rfl
theorem DR{α:Type}[Enc α]{l:List α}{esz k:Nat}(hs:Enc.sz α=esz)(h:k≤l.length):∃ v,(∀ A,hG A esz none (some (.int .i64 (k:Int))) (some (.int .i64 (k:Int))) (enc l)=some v)∧∀ b A,aZ b A v=some (enc (l.take k)):=by
 by_cases hk:k=0
 ·subst hk;refine ⟨.c0 esz,fun A =>?_,fun b A=>by subst hs;rfl⟩;simp only[hG,gy,hs,if_true,gL,gf,Z2];rw[if_pos (by omega)];simp
 ·refine ⟨enc (l.take k),fun A =>?_,fun b A=>by rw[iF]⟩;simp only[hG,gy,hs,if_true,gL,gf,Z2];rw[if_pos (by omega),if_neg (by omega)];simp[List.map_take]
theorem Ej:∀ (a b:List ah) (s:Int),∃ z,bp s (a++b)=bp s a++z
 | [],b,s=>⟨bp s b,rfl⟩
 |r::a,b,s=>by
  obtain ⟨z,h⟩:=Ej a b (cM s (cC r));exact ⟨z,by rw[Y2,bp,bp,h,Z3]⟩
theorem Xn{W:List ah}(hW:dV [] W=true){j:Nat} : ∃ L1 D,fX bf da ((bp 1 W).take j)=(L1,D)∧D.length≤j∧(bp 1 W).take D.length=D∧D.length≤(bp 1 W).length∧L1.length≤W.length∧W.take L1.length=L1∧(L1.length<W.length→j<(bp 1 W).length):=by
 obtain ⟨l1,l2,q1,q2,⟨A2,q3⟩,q4⟩:=Xq sy da ((lT W []).1 hW) (A:=(bp 1 W).take j) (C:=(bp 1 W).drop j) (zy4 _ _).symm;obtain ⟨z,hz⟩:=Ej l1 l2 1;rw[←q1] at hz;have h1:(bp 1 l1).length≤j:=by have:=congrArg List.length q3;rw[Z1,Z6] at this;omega
 refine ⟨l1,bp 1 l1,?_,h1,by rw[hz,zy7],by rw[hz,Z1];omega,by rw[q1,Z1];omega,by rw[q1,zy7],fun h =>?_⟩
 ·rw[fX,q4];simp only;rw[q3,zy7]
 ·apply Decidable.byContradiction;intro hj;have:l2=[]:=q2.2 (List.drop_eq_nil_of_le (by omega));rw[q1,this,zy6] at h;omega
theorem Xp{W:List ah}(hW:dV [] W=true):fX bf da (bp 1 W)=(W,bp 1 W):=by
 have:=ql sy da ((lT W []).1 hW) (z:=[]) (by simp);rw[zy6] at this;rw[fX,this];simp
theorem Xo{W:List ah}(hW:dV [] W=true){i:Nat}(hi:i<(bp 1 W).length):∃ L1 D,fX bf da ((bp 1 W).set i 63)=(L1,D)∧D.length≤i∧L1.length≤W.length∧W.take L1.length=L1∧((bp 1 W).take i).count 10=L1.length:=by
 have e:bp 1 W=(bp 1 W).take i++(bp 1 W)[i]::(bp 1 W).drop (i+1):=by
  rw[←List.drop_eq_getElem_cons hi,zy4]
 have es:(bp 1 W).set i 63=(bp 1 W).take i++63::(bp 1 W).drop (i+1):=List.set_eq_take_append_cons_drop.trans (if_pos hi);obtain ⟨l1,l2,q1,q2,⟨A2,q3⟩,q4⟩:=Xt sy V0 da ((lT W []).1 hW) e;have h1:(bp 1 l1).length≤i:=by have:=congrArg List.length q3;rw[Z1,Z6] at this;omega
 refine ⟨l1,bp 1 l1,?_,h1,by rw[q1,Z1];omega,by rw[q1,zy7],q2⟩;rw[fX,es,q4];simp only;rw[q3,Z3,zy7]
theorem y9{t:List UInt8}{x:Nat}(h:x<t.length):(t.take (x+1)).count 10=(t.take x).count 10+if t[x]=10 then 1 else 0:=by
 rw[hU h,List.count_append,List.count_singleton];simp only[beq_iff_eq]
theorem E6(l:List fg)(hl:l.length≤4000000000000)(n:dQ 2 Int)(m:List fg)(hm:m.length≤4000000000000):aQ Tryz.prog 5 [enc l,enc n,enc m] (enc true):=by
 obtain ⟨n0,n1,rfl⟩:∃ a b:Int,n=⟨[a,b],rfl⟩:=by
  obtain ⟨l,h⟩:=n
  match l,h with
  | [a,b],_=>exact ⟨a,b,rfl⟩
 refine aQ.bN Tryz.func5 Hf Ip JC (t8 rfl) (fun hwf W0 bH E1 =>?_);simp only[c5,CF,bD,Z9,Nat.reduceAdd];clear hwf;have e2:enc (⟨[n0,n1],rfl⟩:dQ 2 Int)=I.agg [.int .i64 n0,.int .i64 n1]:=rfl;rw[e2];clear e2;have i0:=fun (A:ab) (h:A.o 4=some (.box (.agg [.int .i64 n0,.int .i64 n1])))=>(Ay h).1;have i1:=fun (A:ab) (h:A.o 4=some (.box (.agg [.int .i64 n0,.int .i64 n1])))=>(Ay h).2;have g1:=w6 l hl 12 (by decide);have g2:=w6 m hm 12 (by decide);have w1:=C9 l (most:=12) (by decide);have w2:=C9 m (most:=12) (by decide);have hWl:(iL l 12).length≤12:=(C8 l 12).2;have hOl:(iL m 12).length≤12:=(C8 m 12).2;generalize iL l 12=W at *;generalize iL m 12=O at *;have hSl:=oz W (s:=1) (by omega) (qA w1);have f27:=w7 W (by omega);have f27o:=w7 O (by omega);rw[show kl W=(bp 1 W,true) by rw[kl,if_pos (Y5.2 (qA w1))]] at f27;rw[show kl O=(bp 1 O,true) by rw[kl,if_pos (Y5.2 (qA w2))]] at f27o;have f15:=oI (bp 1 W) (by omega);rw[Xp w1] at f15;have s1:=qD W W (by omega);rw[decide_eq_true rfl] at s1;have s2:=qD W O (by omega);have hal:decide (W=O)=decide (bp 1 W=bp 1 O):=by
  rw[decide_eq_decide];exact ⟨fun h=>by rw[h],XM sy da ((lT W []).1 w1) ((lT O []).1 w2)⟩
 rw[hal] at s2;have hq:=kh (bp 1 W) (bp 1 O);have hnq:=gK (bp 1 W) (bp 1 W);rw[decide_eq_true rfl,Bool.not_true] at hnq;obtain ⟨j,hj,hjl⟩:∃ j:Nat,bW n0 ((bp 1 W).length+1:Nat)=(j:Int)∧j≤(bp 1 W).length:=by
  have:=jz n0 (n:=(((bp 1 W).length+1:Nat):Int)) (by omega);obtain ⟨j,hj⟩:=Y0 this.1;exact ⟨j,hj,by omega⟩
 have f28:=kr n0 (((bp 1 W).length+1:Nat):Int) (by omega);rw[hj] at f28;obtain ⟨L1,D,c1,c2,c3,c4,c5,tU,qU⟩:=Xn w1 (j:=j);have f15b:=oI ((bp 1 W).take j) (by rw[Z6];omega);rw[c1] at f15b;have hss:=mX (ak.of (bp 1 W)) (j:=j) (by rw[ak.de];exact hjl);have hsd:=mX (ak.of (bp 1 W)) (j:=D.length) (by rw[ak.de];exact c4);rw[ak.de] at hss hsd;rw[c3] at hsd;have hnd:=gK D D;rw[decide_eq_true rfl,Bool.not_true] at hnd;have hle:=fun t=>mW t;have hw1:IntKind.i64.wrap ((((bp 1 W).length:Nat):Int)+1)=(((bp 1 W).length+1:Nat):Int):=by rw[dU _ (by omega) (by omega)];omega
 have hg1:decide ((D.length:Int)>(j:Int))=false:=decide_eq_false (by omega);have hg2:decide ((L1.length:Int)>(W.length:Int))=false:=decide_eq_false (by omega);obtain ⟨v3,hs3,hf3⟩:=DR (l:=W) (k:=L1.length) (esz:=8) rfl c5;rw[tU] at hf3;have s3:=qD L1 L1 (by omega);rw[decide_eq_true rfl] at s3;clear f28 hal c1;have f28:=kr n0 (((bp 1 W).length+1:Nat):Int) (by omega);rw[hj] at f28
 replace f28:aQ Tryz.prog 28 [.int .i64 n0,.int .i64 (((bp 1 W).length+1:Nat):Int)] (.int .i64 (j:Int)):=f28
 have hsm:=fun (i:Nat) (h:i<(bp 1 W).length)=>Xo w1 h;have hx:(∀ b:Bool,bR .b (.bool b) (.bool b)=some true):=fun b=>by cases b <;>rfl
 generalize bp 1 W=S at *;generalize bp 1 O=T at *;generalize decide (S=T)=d at *;have hbb:∀ b:Bool,(b != b)=false:=fun b=>by cases b <;>rfl
 by_cases h0:S.length=0
 ·have hz:((S.length:Int)==0)=true:=by simp[h0]
  cases hlt:decide ((L1.length:Int)<(W.length:Int))
  ·have R:=y6 @wO (y6 @i0 (y6 @i1 (y6 @hq (y6 @hnq (y6 @hbb (y6 @hx (y6 @hf3 (y6 @hss (y6 @hsd (y6 @hnd (y6 @hle (y6 @hw1 (y6 @hg1 (y6 @hg2 (y6 @hs3 (y6 @hz (y6 @hlt (y6 @bl aE))))))))))))))))))
   repeat' ((first |(with_reducible refine .guard (fun hb =>?_) (fun hb =>?_) <;>try simp only[hb])|refine U.aI (by decide +kernel) rfl fun K hK =>?_|refine .flat _ (tn) rfl ?_|refine .lead _ (g1) ?_|refine .lead _ (g2) ?_|refine .lead _ (f27) ?_|refine .lead _ (f27o) ?_|refine .lead _ (f15) ?_|refine .lead _ (f15b) ?_|refine .flat _ (s1) rfl ?_|refine .flat _ (s2) rfl ?_|refine .flat _ (s3) rfl ?_|refine .flat _ (f28) rfl ?_|(refine .aF [0,1,2,4,6,7,8,9,10,11,12,13,14,15,16,17,18,19,20,21,22,23,24,25,26,27,28,63,78,110,138,177,183] hK ?_;clear hK K)|(with_reducible refine .done (hK _ ?_);clear hK K)|refine U.of rfl ?_|(with_reducible refine ay.aG (fun h =>?_) (fun h =>?_) <;>try simp only[h])) <;>try simp only[aJ,R,zz3,simprocAttr])
   all_goals clear R
   all_goals rfl
  ·exfalso
   have:=qU (by have:=of_decide_eq_true hlt;omega);omega
 have hz:((S.length:Int)==0)=false:=beq_eq_false_iff_ne.2 (by omega);have hjq:decide ((L1.length:Int)<(W.length:Int))=true→((j:Int)==(S.length:Int))=false:=fun h=>by
  have:=qU (by have:=of_decide_eq_true h;omega);rw[beq_eq_false_iff_ne];omega
 obtain ⟨i,hi,hil⟩:∃ i:Nat,bW n1 (S.length:Nat)=(i:Int)∧i<S.length:=by
  have:=jz n1 (n:=((S.length:Nat):Int)) (by omega);obtain ⟨i,hi⟩:=Y0 this.1;exact ⟨i,hi,by omega⟩
 have f28b:=kr n1 ((S.length:Nat):Int) (by omega);rw[hi] at f28b
 replace f28b:aQ Tryz.prog 28 [.int .i64 n1,.int .i64 ((S.length:Nat):Int)] (.int .i64 (i:Int)):=f28b
 obtain ⟨L3,D3,d1,d2,d3,d4,d5⟩:=hsm i hil;clear hsm;have hl2n:(S.set i 63).length=S.length:=by simp
 have f15c:=oI (S.set i 63) (by omega);rw[d1] at f15c;have hsb:=sW S;have hiv:=fun (fs:List I)=>AK (m:=146) (sz:=1) (lo:=0) (l:=S.length) (i:=i) (fs:=fs) hil;rw[Z9] at hiv;have hat:∀ q:List UInt8,jk i [] (some ((S++q).map enc))=some (enc S[i]):=fun q=>by
  have h2:((S++q).map (enc (α:=UInt8)))[i]?=some (enc S[i]):=by
   rw[zz6,zz7 (by omega),Y4 (by omega)];rfl
  simp only[jk,h2,mb,mc]
 have hst:∀ (A:ab) (q:List UInt8) (u:UInt8) (rest:List ar),dT A none 146 [i] (.agg ((S++q).map enc)) (.int .u8 63) rest (some (enc u))=al rest (A.aO 146 (.box (.agg ((S.set i 63++q).map enc)))):=fun A q u rest=>by
  have:=D7 (A:=A) (n:=146) (i:=i) (xs:=S++q) 63 u (rest:=rest) rfl (by simp;omega);rw[List.set_append_left _ _ (by omega)] at this;exact this
 have hcv:=fun (q:List UInt8)=>qp (S.set i 63) q (n:=S.length) hl2n.symm;have hb2:=oU (S.set i 63);have hmn:(if ((W.length:Nat):Int)<((L3.length:Nat):Int) then ((W.length:Nat):Int) else ((L3.length:Nat):Int))=((L3.length:Nat):Int):=if_neg (by omega);obtain ⟨v4,hs4,hf4⟩:=DR (l:=W) (k:=L3.length) (esz:=8) rfl d3;rw[d4] at hf4;have s4:=qD L3 L3 (by omega);rw[decide_eq_true rfl] at s4;have hg3:decide ((D3.length:Int)≤(i:Int))=true:=decide_eq_true (by omega);cases hlt:decide ((L1.length:Int)<(W.length:Int))
 ·have hjq':=trivial;have R:=y6 @ak.de (y6 @hiv (y6 @hat (y6 @hst (y6 @hcv (y6 @hb2 (y6 @hmn (y6 @hs4 (y6 @hf4 (y6 @pB (y6 @mu (y6 @DY (y6 @wO (y6 @i0 (y6 @i1 (y6 @hq (y6 @hnq (y6 @hbb (y6 @hx (y6 @hf3 (y6 @hss (y6 @hsd (y6 @hnd (y6 @hle (y6 @hw1 (y6 @hg1 (y6 @hg2 (y6 @hs3 (y6 @hz (y6 @hlt (y6 @hjq' (y6 @bl aE)))))))))))))))))))))))))))))))
  repeat' ((first |(with_reducible refine .guard (fun hb =>?_) (fun hb =>?_) <;>try simp only[hb])|refine aX.ef rfl fun m =>?_|refine U.aI (by decide +kernel) rfl fun K hK =>?_|refine .flat _ (tn) rfl ?_|refine .lead _ (g1) ?_|refine .lead _ (g2) ?_|refine .lead _ (f27) ?_|refine .lead _ (f27o) ?_|refine .lead _ (f15) ?_|refine .lead _ (f15b) ?_|refine .flat _ (s1) rfl ?_|refine .flat _ (s2) rfl ?_|refine .flat _ (s3) rfl ?_|refine .flat _ (f28) rfl ?_|refine .flat _ (f28b) rfl ?_|refine .lead _ (f15c) ?_|refine .flat _ (s4) rfl ?_|(refine .aF [0,1,2,4,6,7,8,9,10,11,12,13,14,15,16,17,18,19,20,21,22,23,24,25,26,27,28,63,78,110,138,177,183] hK ?_;clear hK K)|(with_reducible refine .done (hK _ ?_);clear hK K)|refine U.of rfl ?_|(with_reducible refine ay.aG (fun h =>?_) (fun h =>?_) <;>try simp only[h])) <;>try simp only[aJ,R,zz3,simprocAttr])
  all_goals clear R
  refine U.loop (fun x:Nat=>aw [(10,enc (ak.of S)),(23,.int .i64 (i:Int)),(24,enc L3),(25,enc (ak.of D3)),(26,.bool true),(27,.int .i64 ((S.take x).count 10:Nat)),(28,.int .i64 (x:Int))] []) (fun x=>x≤i) (fun x=>i-x) 0 (Nat.zero_le _) ?_ ?_
  ·refine bx.cJ ?_ ?_ ?_ ?_ <;>simp[cg,cq,cn,bP,cd,I.only,bG]
   all_goals rfl
  intro x hxi;by_cases hxt:x<i
  rotate_left
  ·have hxc:=fk hxt;have hxe:x=i:=by omega
   subst hxe;rw[d5];have hll:((L3.length:Int)==(L3.length:Int))=true:=by simp
   have R:=y6 @hxc (y6 @hle (y6 @hg3 (y6 @hll (y6 @bl aE))))
   repeat' ((first |(with_reducible refine .guard (fun hb =>?_) (fun hb =>?_) <;>try simp only[hb])|refine U.aI (by decide +kernel) rfl fun K hK =>?_|(refine .aF [0,1,2,4,6,7,8,9,10,11,12,13,14,15,16,17,18,19,20,21,22,23,24,25,26,27,28,63,78,110,138,177,183] hK ?_;clear hK K)|(with_reducible refine .done (hK _ ?_);clear hK K)|refine U.of rfl ?_|(with_reducible refine ay.aG (fun h =>?_) (fun h =>?_) <;>try simp only[h])) <;>try simp only[aJ,R,simprocAttr])
   all_goals clear R
   all_goals rfl
  have hxc:=eR hxt;have hxS:x<S.length:=by omega
  have hxw:=ez (i:=x) (by omega);have hsi:=sX S hxS;have hct:=y9 hxS;have hcl:(S.take x).count 10≤x:=by
   have:=List.count_le_length (l:=S.take x) (a:=(10:UInt8));rw[Z6] at this;omega
  have hcw:=ez (i:=(S.take x).count 10) (by omega);cases q:((S[x].toNat:Int)==10)
  ·have hne:¬ S[x]=10:=fun e=>by rw[e] at q;simp at q
   rw[if_neg hne,Nat.add_zero] at hct;generalize S[x]=c at *;have R:=y6 @hxc (y6 @hxw (y6 @hsi (y6 @q (y6 @bl aE))))
   repeat' ((first |(with_reducible refine .guard (fun hb =>?_) (fun hb =>?_) <;>try simp only[hb])|refine U.aI (by decide +kernel) rfl fun K hK =>?_|(refine .aF [0,1,2,4,6,7,8,9,10,11,12,13,14,15,16,17,18,19,20,21,22,23,24,25,26,27,28,63,78,110,138,177,183] hK ?_;clear hK K)|(with_reducible refine .done (hK _ ?_);clear hK K)|refine U.of rfl ?_|(with_reducible refine ay.aG (fun h =>?_) (fun h =>?_) <;>try simp only[h])) <;>try simp only[aJ,R,simprocAttr])
   all_goals clear R
   refine ⟨x+1,by omega,by omega,?_⟩;rw[hct];refine bx.cJ ?_ ?_ ?_ ?_ <;>simp[cg,cq,cn,bP,cd,I.only,bG]
  ·have e10:(10:UInt8).toNat=10:=rfl;have q':(S[x].toNat:Int)=10:=by simpa using q
   have hee:S[x]=10:=UInt8.toNat_inj.1 (by omega);rw[if_pos hee] at hct;generalize S[x]=c at *;have R:=y6 @hxc (y6 @hxw (y6 @hsi (y6 @q (y6 @hcw (y6 @bl aE)))))
   repeat' ((first |(with_reducible refine .guard (fun hb =>?_) (fun hb =>?_) <;>try simp only[hb])|refine U.aI (by decide +kernel) rfl fun K hK =>?_|(refine .aF [0,1,2,4,6,7,8,9,10,11,12,13,14,15,16,17,18,19,20,21,22,23,24,25,26,27,28,63,78,110,138,177,183] hK ?_;clear hK K)|(with_reducible refine .done (hK _ ?_);clear hK K)|refine U.of rfl ?_|(with_reducible refine ay.aG (fun h =>?_) (fun h =>?_) <;>try simp only[h])) <;>try simp only[aJ,R,simprocAttr])
   all_goals clear R
   refine ⟨x+1,by omega,by omega,?_⟩;rw[hct];refine bx.cJ ?_ ?_ ?_ ?_ <;>simp[cg,cq,cn,bP,cd,I.only,bG]
   all_goals rfl
 ·have hjq':=hjq hlt;have R:=y6 @ak.de (y6 @hiv (y6 @hat (y6 @hst (y6 @hcv (y6 @hb2 (y6 @hmn (y6 @hs4 (y6 @hf4 (y6 @pB (y6 @mu (y6 @DY (y6 @wO (y6 @i0 (y6 @i1 (y6 @hq (y6 @hnq (y6 @hbb (y6 @hx (y6 @hf3 (y6 @hss (y6 @hsd (y6 @hnd (y6 @hle (y6 @hw1 (y6 @hg1 (y6 @hg2 (y6 @hs3 (y6 @hz (y6 @hlt (y6 @hjq' (y6 @bl aE)))))))))))))))))))))))))))))))
  repeat' ((first |(with_reducible refine .guard (fun hb =>?_) (fun hb =>?_) <;>try simp only[hb])|refine aX.ef rfl fun m =>?_|refine U.aI (by decide +kernel) rfl fun K hK =>?_|refine .flat _ (tn) rfl ?_|refine .lead _ (g1) ?_|refine .lead _ (g2) ?_|refine .lead _ (f27) ?_|refine .lead _ (f27o) ?_|refine .lead _ (f15) ?_|refine .lead _ (f15b) ?_|refine .flat _ (s1) rfl ?_|refine .flat _ (s2) rfl ?_|refine .flat _ (s3) rfl ?_|refine .flat _ (f28) rfl ?_|refine .flat _ (f28b) rfl ?_|refine .lead _ (f15c) ?_|refine .flat _ (s4) rfl ?_|(refine .aF [0,1,2,4,6,7,8,9,10,11,12,13,14,15,16,17,18,19,20,21,22,23,24,25,26,27,28,63,78,110,138,177,183] hK ?_;clear hK K)|(with_reducible refine .done (hK _ ?_);clear hK K)|refine U.of rfl ?_|(with_reducible refine ay.aG (fun h =>?_) (fun h =>?_) <;>try simp only[h])) <;>try simp only[aJ,R,zz3,simprocAttr])
  all_goals clear R
  refine U.loop (fun x:Nat=>aw [(10,enc (ak.of S)),(23,.int .i64 (i:Int)),(24,enc L3),(25,enc (ak.of D3)),(26,.bool true),(27,.int .i64 ((S.take x).count 10:Nat)),(28,.int .i64 (x:Int))] []) (fun x=>x≤i) (fun x=>i-x) 0 (Nat.zero_le _) ?_ ?_
  ·refine bx.cJ ?_ ?_ ?_ ?_ <;>simp[cg,cq,cn,bP,cd,I.only,bG]
   all_goals rfl
  intro x hxi;by_cases hxt:x<i
  rotate_left
  ·have hxc:=fk hxt;have hxe:x=i:=by omega
   subst hxe;rw[d5];have hll:((L3.length:Int)==(L3.length:Int))=true:=by simp
   have R:=y6 @hxc (y6 @hle (y6 @hg3 (y6 @hll (y6 @bl aE))))
   repeat' ((first |(with_reducible refine .guard (fun hb =>?_) (fun hb =>?_) <;>try simp only[hb])|refine U.aI (by decide +kernel) rfl fun K hK =>?_|(refine .aF [0,1,2,4,6,7,8,9,10,11,12,13,14,15,16,17,18,19,20,21,22,23,24,25,26,27,28,63,78,110,138,177,183] hK ?_;clear hK K)|(with_reducible refine .done (hK _ ?_);clear hK K)|refine U.of rfl ?_|(with_reducible refine ay.aG (fun h =>?_) (fun h =>?_) <;>try simp only[h])) <;>try simp only[aJ,R,simprocAttr])
   all_goals clear R
   all_goals rfl
  have hxc:=eR hxt;have hxS:x<S.length:=by omega
  have hxw:=ez (i:=x) (by omega);have hsi:=sX S hxS;have hct:=y9 hxS;have hcl:(S.take x).count 10≤x:=by
   have:=List.count_le_length (l:=S.take x) (a:=(10:UInt8));rw[Z6] at this;omega
  have hcw:=ez (i:=(S.take x).count 10) (by omega);cases q:((S[x].toNat:Int)==10)
  ·have hne:¬ S[x]=10:=fun e=>by rw[e] at q;simp at q
   rw[if_neg hne,Nat.add_zero] at hct;generalize S[x]=c at *;have R:=y6 @hxc (y6 @hxw (y6 @hsi (y6 @q (y6 @bl aE))))
   repeat' ((first |(with_reducible refine .guard (fun hb =>?_) (fun hb =>?_) <;>try simp only[hb])|refine U.aI (by decide +kernel) rfl fun K hK =>?_|(refine .aF [0,1,2,4,6,7,8,9,10,11,12,13,14,15,16,17,18,19,20,21,22,23,24,25,26,27,28,63,78,110,138,177,183] hK ?_;clear hK K)|(with_reducible refine .done (hK _ ?_);clear hK K)|refine U.of rfl ?_|(with_reducible refine ay.aG (fun h =>?_) (fun h =>?_) <;>try simp only[h])) <;>try simp only[aJ,R,simprocAttr])
   all_goals clear R
   refine ⟨x+1,by omega,by omega,?_⟩;rw[hct];refine bx.cJ ?_ ?_ ?_ ?_ <;>simp[cg,cq,cn,bP,cd,I.only,bG]
  ·have e10:(10:UInt8).toNat=10:=rfl;have q':(S[x].toNat:Int)=10:=by simpa using q
   have hee:S[x]=10:=UInt8.toNat_inj.1 (by omega);rw[if_pos hee] at hct;generalize S[x]=c at *;have R:=y6 @hxc (y6 @hxw (y6 @hsi (y6 @q (y6 @hcw (y6 @bl aE)))))
   repeat' ((first |(with_reducible refine .guard (fun hb =>?_) (fun hb =>?_) <;>try simp only[hb])|refine U.aI (by decide +kernel) rfl fun K hK =>?_|(refine .aF [0,1,2,4,6,7,8,9,10,11,12,13,14,15,16,17,18,19,20,21,22,23,24,25,26,27,28,63,78,110,138,177,183] hK ?_;clear hK K)|(with_reducible refine .done (hK _ ?_);clear hK K)|refine U.of rfl ?_|(with_reducible refine ay.aG (fun h =>?_) (fun h =>?_) <;>try simp only[h])) <;>try simp only[aJ,R,simprocAttr])
   all_goals clear R
   refine ⟨x+1,by omega,by omega,?_⟩;rw[hct];refine bx.cJ ?_ ?_ ?_ ?_ <;>simp[cg,cq,cn,bP,cd,I.only,bG]
   all_goals rfl
end Go.Proofs.YtoffnnjbplgnaaaGreatDoor
