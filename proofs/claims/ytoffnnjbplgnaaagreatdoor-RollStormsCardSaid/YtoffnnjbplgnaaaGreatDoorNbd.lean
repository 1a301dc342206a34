/-
  A part of the proof that the law RollStorms returns true for every input; five variables of Go's library start as the text lays them (the card ties them); conditions: none beyond the statement's own. (part 4 of 6)
-/
import Derived.ProofKit
import Derived.SizedLaws
import Derived.Lib.SplitLaws
import Derived.Lib.AtoiAll
import Derived.Lib.ItoaMem
import Derived.Shelf.Strings.Split
import Derived.Shelf.Small.Wraps
import Derived.Shelf.Strconv.ErrVarAll
import Derived.Lib.FieldsP
import Derived.Laws.RangeAny
import Derived.Shelf.Strconv.Itoa3
import Derived.Lib.ItoaLen
import Derived.Shelf.Strings.Prefix
import Derived.Shelf.Strings.Cut
import Derived.Shelf.Small.Strs
import Derived.Shelf.Strconv.Clone
import Derived.Shelf.Strings.FieldsFuncAny
import Derived.WalkKit
import Derived.Tactics
import Derived.Tactics2
import Derived.RecoverIn
import Derived.Deep.MidRow
import Derived.Shelf.Strings.BuilderK
import Derived.BigCall
import Derived.Deep.RegionWith
import Derived.Test.YtoffnnjbplgnaaaGreatDoorNbc
set_option linter.unusedSimpArgs false
set_option linter.unusedVariables false
set_option maxHeartbeats 16000000
set_option maxRecDepth 100000
namespace Go.Abs
open Go Go.RowKit
def jT(b:Nat):Value:=.pointer (some ⟨b,0,none⟩)
def qQ(P:Program)(f:FuncId)(k:Nat):Prop:=dO P f=true∧∀ (bs:List Nat) (w:World),bs.length=k →
 CallsDIn Fence.wide 8 P f (bs.map jT).toArray .returning w fun e u' w'=>(∃ v,e=.returned v)∧u'=.returning∧w'=w
def nf(A:ab):List Nat→List I→ab
 |N::Ns,z::zs=>nf (A.aP N (.box z)) Ns zs
 |_,_=>A
def kE(E:aO):List Nat→List Nat→List I→Prop
 | [],[],[]=>True
 |N::Ns,b::bs,z::zs=>E N=some (.aG b z.aK)∧kE E Ns bs zs
 |_,_,_=>False
def ny(A:ab):List Nat→List I→Prop
 | [],[]=>True
 |N::Ns,z::zs=>(∃ x,A.o N=some (.box x)∧x.aK=z.aK)∧ny A Ns zs
 |_,_=>False
def qN(P:Program)(f:FuncId)(ch:List PanicEntry)(zs:List I):Prop:=dO P f=true∧∀ (c:cd) (A:ab) (a:Act) (w:World) (D:aI) (E:aO) (Ns bs:List Nat),c.P=P→aL c A a w D E→kE E Ns bs zs→ny A Ns zs →
 CallsDIn Fence.wide 8 P f (bs.map jT).toArray (.panicking ch) w fun e u' w'=>(∃ v,e=.returned v)∧settle u'=.returning∧aL c (nf A Ns zs) a w' D E
def jF(f:FuncId)(vs:List Value):Deferred := { target:=.fn (.func f) vs.toArray,args := #[] }
def qn(rs:List bq)(post:bY)(ch:List PanicEntry)(Ns:List Nat)(zs:List I):Exit→ab→Prop
 | .ret,A=>ny A Ns zs∧iL rs post A
 | .panic ch',A=>ch'=ch∧ny A Ns zs∧iL rs post (nf A Ns zs)
 |_,_=>False
theorem kE.len{E:aO} : ∀ {Ns bs:List Nat} {zs:List I},kE E Ns bs zs→bs.length=zs.length∧Ns.length=zs.length
 | [],[],[],_=>⟨rfl,rfl⟩
 |_::Ns,_::bs,_::zs,h=>by
  have:=kE.len h.2;simp[this.1,this.2]
 | [],_::_,_,h=>h.elim
 | [],[],_::_,h=>h.elim
 |_::_,[],_,h=>h.elim
 |_::_,_::_,[],h=>h.elim
section
variable {P:Program} {n:Nat} {w:World} {D:aI} {E:aO} {rs:List bq} {post:bY} {fn:Func} {ch:List PanicEntry} {f:FuncId} {Ns bs:List Nat} {zs:List I}
theorem xR{A:ab}{a:Act}{w':World}{D':aI}{E':aO}{dM:Option (List Deferred)}(hs:aL ⟨P,w,D,n,bS E,E,fy,none,dM⟩ A a w' D' E'):∀ {Ns bs:List Nat} {zs:List I},kE E Ns bs zs→ny A Ns zs→kE E' Ns bs zs
 | [],[],[],_,_=>trivial
 |N::Ns,b::bs,z::zs,h,hx=>by
  refine ⟨?_,xR hs h.2 hx.2⟩;obtain ⟨x,hx,_⟩:=hx.1;have hob:c6 _ w' D' E' N (some (.box x)):=hx▸hs.bx N;rcases hs.uT (n:=N) (e:=.aG b z.aK) h.1 rfl with k | k
  ·exact absurd k (p7 hob)
  ·exact k
 | [],_::_,_,h,_=>h.elim
 | [],[],_::_,h,_=>h.elim
 |_::_,[],_,h,_=>h.elim
 |_::_,_::_,[],h,_=>h.elim
theorem Bc(hrs:fR P fn.results.toList=some rs)(hEN:kE E Ns bs zs){A:ab}{D':aI}{E':aO}{u:FrameMode}(hx:ny A Ns zs)
  (hcase:(u=.returning∧iL rs post A∧qQ P f zs.length)∨(u=.panicking ch∧iL rs post (nf A Ns zs)∧qN P f ch zs)) :
  ∀ (ds:List Deferred) (a:Act) (w':World),a.defers=ds→aL ⟨P,w,D,n,bS E,E,fy,none,some [jF f (bs.map jT)]⟩ A a w' D' E'→LeavesInM Fence.wide 9 P fn a.tmps (fun e w'=>∃ v,e=.returned v∧kH w D E post v w') ds u w'
 | [],a,w',hd,hs=>by
  have h1:a.defers=[jF f (bs.map jT)]:=hs.ee;rw[hd] at h1;cases h1
 |d::ds,a,w',hd,hs=>by
  have h1:a.defers=[jF f (bs.map jT)]:=hs.ee;rw[hd] at h1;simp only[zz8] at h1;obtain ⟨rfl,rfl⟩:=h1;refine ⟨by rcases hcase with ⟨rfl,_⟩ | ⟨rfl,_⟩ <;>simp,.inr ⟨fun _=>by decide,.func f,(bs.map jT).toArray,f,(bs.map jT).toArray,rfl,?_,fun _ _=>trivial,?_⟩⟩
  ·have hcb:dO P f=true:=by rcases hcase with ⟨_,_,h⟩ | ⟨_,_,h⟩ <;>exact h.1
   simp only[jF,invoke,l9 hcb,Array.empty_append]
  ·rcases hcase with ⟨rfl,hr,hi⟩ | ⟨rfl,hr,hc⟩
   ·refine (hi.2 bs w' hEN.len.1).mono ?_;rintro e u' w'' ⟨⟨v,rfl⟩,rfl,rfl⟩;obtain ⟨v,h1,h2⟩:=hs.r6 hrs hr;exact ⟨v,h1,v,rfl,h2⟩
   ·refine (hc.2 _ A a w' D' E' Ns bs rfl hs (xR hs hEN hx) hx).mono ?_;rintro e u' w'' ⟨⟨v,rfl⟩,hu,hs2⟩;obtain ⟨v,h1,h2⟩:=hs2.r6 hrs hr;simp only[hu];exact ⟨v,h1,v,rfl,h2⟩
theorem B5{w:World}{D:aI}{E:aO} : ∀ {Ns:List Nat} {zs:List I} {vs:List Value},dY (aQ w D E) (Ns.map fun N=>.ptr N []) vs→(∀ q∈Ns.zip zs,∃ b,E q.1=some (.aG b q.2.aK))→Ns.length=zs.length→∃ bs,vs=bs.map jT∧kE E Ns bs zs
 | [],[],_,.nil,_,_=>⟨[],rfl,trivial⟩
 |N::Ns,z::zs,_,.cons h hs,hb,hl=>by
  obtain ⟨bs,rfl,h2⟩:=B5 (zs:=zs) hs (fun q hq=>hb q (by simp[hq])) (by simpa using hl);obtain ⟨b,ar⟩:=hb (N,z) (by simp);obtain ⟨b',aK,off,p1,p2,rfl⟩:=kq h;simp only at ar;rw[ar] at p1;simp only[v6,bt.aG.injEq] at p1;obtain ⟨rfl,rfl⟩:=p1;have hoff:off=0:=by
   cases hz:z.aK <;>rw[hz] at p2 <;>simpa[bN.off] using p2.symm
  subst hoff;exact ⟨b::bs,rfl,ar,h2⟩
 | [],_::_,_,_,_,hl=>by simp at hl
 |_::_,[],_,_,_,hl=>by simp at hl
theorem qW{α:Type}{R:I→Value→Prop}{f:α→I}{g:α→Value}(h:∀ x,R (f x) (g x)):∀ l:List α,dY R (l.map f) (l.map g)
 | []=>.nil
 |x::l=>.cons (h x) (qW h l)
theorem Yh{rest:Code}{x:bj}{slots:List Nat}{a:Act}{args:List I}{os:List (Nat×ai)}{tss:List Nat}(hrs:fR P fn.results.toList=some rs)(hx:dN P n rest=some x)(hsz:a.tmps.size=n)(hd:a.defers=[jF f (tss.map fun t=>a.tmps.getD t undef)])(hos:∀ m,aH os m=true→n≤m∧1000000≤m)
  (hts:tss.map (b8 (slots.zip args))=Ns.map fun N=>.ptr N []) (hl:Ns.length=zs.length) (hN:∀ q∈Ns.zip zs,∃ y,aJ os q.1=some (.box y)∧y.aK=q.2.aK) (hi:qQ P f zs.length) (hc:qN P f ch zs)
  (hAW:∀ (w:World) (D:aI) (E:aO) (d:Deferred),U ⟨P,w,D,n,bS E,E,fy,none,some [d]⟩ x (qn rs post ch Ns zs) (ay (slots.zip args) os)):ml (qz P fn rest slots a) (fun w _ E=>eB P w (bS E)) args os post:=by
 intro w D E vs hl0 hD ho hv hvs;have hvs':vs=slots.map (fun t=>a.tmps.getD t undef):=by simpa using hvs
 subst hvs';have htm:=Ey (fun t=>a.tmps.getD t undef) slots args hv;have hp:=qW htm tss;rw[hts] at hp;obtain ⟨bs,hbs,hat⟩:=B5 (zs:=zs) hp (fun q hq=>by
  obtain ⟨y,h1,h2⟩:=hN q hq;have hob:c6 _ w D E q.1 (some (.box y)):=h1▸ho.bx q.1;obtain ⟨b',cs,T,e1,_⟩:=hob;exact ⟨b',by rw[e1,h2]⟩) hl
 rw[hbs] at hd;have hsim:aL ⟨P,w,D,n,bS E,E,fy,none,some [jF f (bs.map jT)]⟩ (ay (slots.zip args) os) a w D E:=by
  refine ⟨hsz,hd,htm,ew.refl _ _,fun _ _ h _=>h,hD,fun m =>?_,ho.cv,fun m e h=>.inr ⟨e,h,.refl e⟩,fun m hm =>?_,fun _ _ h=>h,oT hl0,.refl _ _⟩
  ·have h:=ho.bx m;simp only[ay];cases hx:aJ os m with
   |none=>rw[hx] at h;exact h
   |some x=>rw[hx] at h;exact c6.jo h fun e b he hb=>.inr ⟨m,e,he,hb⟩
  ·refine hos m ?_;cases hx:aJ os m with
   |none=>have h:=ho.bx m;rw[hx] at h;exact absurd h hm
   |some x=>simp[aH,hx]
 refine wpIn_mono ((hAW w D E _) rest hx a w ⟨D,E,hsim⟩) ?_;rintro e a' w' ⟨A,hq,D',E',hs⟩;have ba:∀ e w',(∃ v,e=Ending.returned v∧kH w D E post v w')→∃ v D' E' r os',e=.returned v∧post r os'∧aQ w' D' E' r v∧iZ (fun b=>w.heap.size≤b∨bS E b) w' D' E' (aJ os') ∧
   ew (fun b=>w.heap.size≤b∨bS E b) w w'∧(∀ b o,D b o→D' b o)∧(∀ b o,D' b o→b<w'.heap.size)∧(∀ b o,D' b o→b<w.heap.size→¬ bS E b→D b o) ∧
   (∀ n e,E n=some e→aH os' n=true→∃ e',E' n=some e'∧e.fi e')∧fO w D w':=fun e w' ⟨v,h1,D',E',r,os',h2⟩=>⟨v,D',E',r,os',h1,h2⟩
 cases e <;>simp only[qn] at hq
 ·obtain ⟨h1,h2⟩:=hq;exact oi ba _ _ _ (Bc (ch:=ch) hrs hat h1 (.inl ⟨rfl,h2,hi⟩) a'.defers a' w' rfl hs)
 ·obtain ⟨rfl,h1,h2⟩:=hq;exact oi ba _ _ _ (Bc hrs hat h1 (.inr ⟨rfl,h2,hc⟩) a'.defers a' w' rfl hs)
end
def oP:List aw→Option (List Nat)
 | []=>some []
 | .t n::l=>(oP l).map (n :: ·)
 |_=>none
theorem Ez:∀ {l:List aw} {ts:List Nat},oP l=some ts→l=ts.map .t
 | [],ts,h=>by simp only[oP,v6] at h;subst h;rfl
 | .t n::l,ts,h=>by
  simp only[oP,t7] at h;obtain ⟨r,h1,rfl⟩:=h;rw[Ez h1];rfl
 | .c _::_,_,h=>by simp[oP] at h
def uu(P:Program)(n:Nat):Code→Option (bj×FuncId×List Nat×Nat×bj)
 | .seq iB (.seq (.region _ bh false) rest)=>match bh.toList with
  | [o1,o2]=>match kM P n bh o1,o2.op with
   |some ⟨some t5,.mk g caps,none⟩,.defer { callee:=.value (.tmp t),args,.. } =>if t=t5∧args = #[]∧o2.guard=none∧o2.dst=none then (match dN P n iB,dN P n rest,oP caps with
     |some x0,some x,some tss=>some (x0,g,tss,t5,x)
     |_,_,_=>none)
    else none
   |_,_=>none
  |_=>none
 |_=>none
structure FK (P:Program) (n:Nat) (x:bj) (rs:List bq) (post:bY) (ch:List PanicEntry) (g:FuncId) (tss:List Nat) (t5:Nat) (tsl:List (Nat×I)) (os0:List (Nat×ai)) (ρ:List (Nat×Nat)) (os1:List (Nat×ai)) (slots:List Nat) (cargs:List I) (Ns:List Nat) (zs:List I) (post1:bY):Prop where
 bE:tss.map (b8 tsl)=Ns.map fun N=>.ptr (bp ρ N) []
 AF:eK ρ os1 os0
 arg:fP false (ay ((t5,.func g (Ns.map fun N=>.ptr (bp ρ N) []))::tsl) (dQ (iy ρ os1) os0)) ρ os1 (slots.map (b8 ((t5,.func g (Ns.map fun N=>.ptr (bp ρ N) []))::tsl))) cargs
 xL:∀ r os',post1 r os'→dF false ρ os1 os0 r os'
 Ec:tss.map (b8 (slots.zip cargs))=Ns.map fun N=>.ptr N []
 len:Ns.length=zs.length
 box:∀ q∈Ns.zip zs,∃ y,aJ os1 q.1=some (.box y)∧y.aK=q.2.aK
 lO:∀ m,aH os1 m=true→n≤m∧1000000≤m
 rest:∀ (w:World) (D:aI) (E:aO) (d:Deferred),U ⟨P,w,D,n,bS E,E,fy,none,some [d]⟩ x (qn rs post1 ch Ns zs) (ay (slots.zip cargs) os1)
 kJ:∀ r os',post1 r os'→∃ osF,r.flat=true∧r.aS (bp ρ)=r∧(∀ m z,aJ osF m=some z→aJ (c7 ρ os'++os0) m=some z∧z.only (aH osF)=true∧z.ep=true)∧post r osF
theorem B6{w:World}{D:aI}{E:aO}{ρ:List (Nat×Nat)} : ∀ {Ns:List Nat} {vs vs':List Value},dY (aQ w D E) (Ns.map fun N=>.ptr (bp ρ N) []) vs→dY (aQ w D E) (Ns.map fun N=>.ptr (bp ρ N) []) vs'→vs=vs'
 | [],_,_,.nil,.nil=>rfl
 |N::Ns,_,_,.cons h hs,.cons h' hs'=>by
  obtain ⟨b1,sh1,off1,p1,p2,rfl⟩:=kq h;obtain ⟨b2,sh2,off2,q1,q2,rfl⟩:=kq h';rw[p1] at q1;simp only[v6,bt.aG.injEq] at q1;obtain ⟨rfl,rfl⟩:=q1;rw[p2] at q2;simp only[v6] at q2;subst q2;rw[B6 hs hs']
theorem eJ.Xd{P:Program}{f:FuncId}{fn:Func}{x0 x:bj}{g:FuncId}{tss:List Nat}{t5:Nat}{rs:List bq}{args:List I}{os:List (Nat×ai)}{post:bY}{ch:List PanicEntry}{zs:List I}(hf:P.funcs[f]?=some fn)(hcall:dO P f=true)(hc:(fn.body.bind (uu P fn.ntmps))=some (x0,g,tss,t5,x))
  (hrs:fR P fn.results.toList=some rs) (hn:args.length≤fn.ntmps) (hn2:fn.ntmps≤1000000) (hos:∀ m,aH os m=true→1000000≤m) (hi:qQ P g zs.length) (hca:qN P g ch zs) (hts:tss.contains t5=false)
  (h:I.fE args→∀ (w:World) (D:aI) (E:aO),U ⟨P,w,D,fn.ntmps,bS E,E,fy,none,some []⟩ x0 (cT (fun B=>∃ tsl os0 ρ os1 slots cargs Ns post1,B=ay tsl os0∧FK P fn.ntmps x rs post ch g tss t5 tsl os0 ρ os1 slots cargs Ns zs post1) (fun _ _=>False)) (ay (bB 0 args) os)):eJ P f args os post:=by
 obtain ⟨body,hb,hc⟩:=zx3.1 hc;refine ⟨hcall,fun w D E vs hl hD ho hv =>?_⟩;have hlen:=qA hv;have s0:=wF (P:=P) (n:=fn.ntmps) (Y:=fy) hD ho hv (by omega) (fun m hm=>⟨Nat.le_trans hn2 (hos m hm),hos m hm⟩) (oT hl);have hsim:aL (rr P w D fn.ntmps E (some [])) (nq args os) { tmps:=vs.toArray++Array.replicate (fn.ntmps-vs.toArray.size) undef,defers:=[] } w D E :=
  ⟨s0.sz,rfl,s0.dz,s0.di,s0.cJ,s0.cM,s0.bx,s0.cv,s0.dx,s0.eE,s0.cu,oT hl,s0.eY⟩
 obtain ⟨RR,hRR⟩:∃ RR:Ending→World→Prop,RR=fun e w'=>∃ v,e=.returned v∧kH w D E post v w':=⟨_,rfl⟩
 refine Calls.mono (R:=RR) ?_ (fun e w' q=>by rw[hRR] at q;obtain ⟨v,he,D',E',r,os',k⟩:=q;exact ⟨v,D',E',r,os',he,k⟩);refine (callsIn_wide (n:=9)).1 (callsIn_of_wp_marks hf hb trivial ?_);unfold uu at hc;split at hc
 case h_2=>cases hc
 rename_i iB id bh rest;split at hc
 case h_2=>cases hc
 rename_i o1 o2 hops;split at hc
 case h_2=>cases hc
 rename_i t5' g' caps t dargs _ hg1 ho2;split at hc
 case isFalse=>cases hc
 rename_i hok;obtain ⟨ht,hda,hgd,hdst⟩:=hok;split at hc
 case h_2=>cases hc
 rename_i y0 y tss' hx0 hx htt;simp only[v6,Prod.mk.injEq] at hc;obtain ⟨e1,e2,e3,e4,e5⟩:=hc;subst e4 ht hda e1 e2 e3 e5;have hcaps:=Ez htt;subst hcaps;refine wpIn_seq ?_;have hw0:=((h (oK _ _ hv) w D E).sub (tj args os)) iB hx0 _ w ⟨D,E,hsim⟩;refine wpIn_mono hw0 ?_;rintro e a1 w1 ⟨B,hq,D1,E1,hs1⟩;cases e <;>simp only[cT] at hq
 obtain ⟨tsl,os0,ρ,os1,slots,cargs,Ns,post1,rfl,R⟩:=hq;simp only[Exit.then];refine wpIn_seq (wpIn_region_list ?_);rw[hops];obtain ⟨q1,q2,q3,q4⟩:=nK hg1;simp only at q1 q2;have wn1:∀ a:Act,Region.wanted o1 (yielded bh a.tmps)=true:=fun a=>by
  rcases q4 with ⟨a5,_⟩ | ⟨_,_,_,_,_,a5⟩
  ·simp[Region.wanted,a5]
  ·simp at a5
 have wn2:∀ a:Act,Region.wanted o2 (yielded bh a.tmps)=true:=fun a=>by simp[Region.wanted,hgd]
 simp only[wpListIn,wn1,if_true];have hmk:aU (ay tsl os0) (.mk g' (tss'.map .t))=some (.func g' (Ns.map fun N=>.ptr (bp ρ N) [])):=by
  have e:(tss'.map aw.t).map (af (ay tsl os0))=Ns.map fun N=>.ptr (bp ρ N) []:=by
   rw[←R.bE,List.map_map];rfl
  simp only[aU,e];rw[if_pos];simp[I.cn]
 have d1:=(B8 (c:=rr P w D fn.ntmps E (some [])) q1 hmk).does q3;rw[←q2] at d1;refine d1.wp q1 ⟨D1,E1,hs1⟩ fun a2 w2 hs2 =>?_;obtain ⟨D2,E2,hs2⟩:=hs2;simp only[wn2,if_true];rw[Bn] at hs2
 -- the deferred call
 have hglt:=zh hi.1;have hfv:=hs2.dz t;simp only[ay,b8,if_true] at hfv;obtain ⟨fc,f1,f2⟩:=hfv;simp only[ae] at f2;obtain ⟨fvs,f3,f4⟩:=f2;have hval:a2.tmps.getD t undef=.func (.func g') #[] fvs.toArray:=by
  rw[←lN hglt];simpa[aX,I.isAgg,f3] using f1.symm
 have htl:tss'.map (b8 ((t,.func g' (Ns.map fun N=>.ptr (bp ρ N) []))::tsl))=Ns.map fun N=>.ptr (bp ρ N) []:=by
  rw[←R.bE];refine List.map_congr_left fun k hk =>?_;simp only[b8];rw[if_neg];intro e;have:tss'.contains k=true:=by simpa using hk
  rw[e,hts] at this;cases this
 have hfvs:fvs=tss'.map fun k=>a2.tmps.getD k undef:=by
  refine B6 (w:=w2) (D:=D2) (E:=E2) (ρ:=ρ) (oI f4) ?_;have:=qW (f:=b8 ((t,.func g' (Ns.map fun N=>.ptr (bp ρ N) []))::tsl)) (g:=fun k=>a2.tmps.getD k undef) (fun k=>hs2.dz k) tss'
  rwa [htl] at this
 have hdf:a2.defers=[]:=hs2.ee;obtain ⟨a3,ha3⟩:∃ a3:Act,a3 = { a2 with defers:=[jF g' (tss'.map fun k=>a2.tmps.getD k undef)] } :=⟨_,rfl⟩
 have hrun:(o2.semAt Fence.wide.round a2.eval).run P w2=.ok (.defer (jF g' (tss'.map fun k=>a2.tmps.getD k undef))) w2:=by
  show (execOp a2.eval o2).run P w2=_
  have he:a2.eval (.tmp t)=.func (.func g') #[] fvs.toArray:=hval;simp[execOp,ho2,resolve,he,Deferred.ofValue,jF,hfvs]
 refine ⟨fun _ _=>trivial,?_⟩;rw[hrun,Oper.uponIn_defer,hdf,hdst];simp only[Exit.then];have hput:({ tmps:=a2.tmps,defers:=[jF g' (tss'.map fun k=>a2.tmps.getD k undef)] } : Act).put none undef=a3:=by rw[ha3];rfl
 rw[hput]
 -- the rest
 have hand:=Yh (P:=P) (n:=fn.ntmps) (fn:=fn) (f:=g') (Ns:=Ns) (zs:=zs) (ch:=ch) (slots:=slots) (a:=a3) (args:=cargs) (os:=os1) (tss:=tss') hrs hx (by rw[ha3];exact hs2.sz) (by rw[ha3]) R.lO R.Ec R.len R.box hi hca R.rest;have hs3:aL (rr P w D fn.ntmps E (some [jF g' (tss'.map fun k=>a2.tmps.getD k undef)])) (ay ((t,.func g' (Ns.map fun N=>.ptr (bp ρ N) []))::tsl) os0) a3 w2 D2 E2:=by
  rw[ha3];exact ⟨hs2.sz,rfl,hs2.dz,hs2.di,hs2.cJ,hs2.cM,hs2.bx,hs2.cv,hs2.dx,hs2.eE,hs2.cu,oT hl,hs2.eY⟩
 have hall:∀ l:List Nat,dY (aQ w2 D2 E2) (l.map (b8 ((t,.func g' (Ns.map fun N=>.ptr (bp ρ N) []))::tsl))) (l.map fun k=>a3.tmps.getD k undef):=fun l=>qW (fun k=>hs3.dz k) l;have hus:=hand.use hs3 false (fun h hr=>h.mono hr) ⟨(fun h=>by cases h),fun _=>hs3.oh⟩ R.AF R.arg R.xL (hall slots);refine qz.mono hus ?_ (by simp);rintro e w' ⟨v,r,os',D4,E4,rfl,hp,hs4,hv4,_⟩;rw[hRR];obtain ⟨osF,g1,g2,g3,g4⟩:=R.kJ r os' hp;rw[g2] at hv4;exact ⟨v,rfl,hs4.VT g3 g1 hv4 g4⟩
end Go.Abs
namespace Go.Abs
open Go Go.RowKit
open Enc (enc)
def jz(w:World):aI:=fun b _=>b<w.heap.size
structure qT (P:Program) (t:TypeId) (α:Type) [Enc α]:Prop where
 cells:P.cellsOf t=Enc.sz α
 sI:0<Enc.sz α
 mN:∀ {H:Type} {enc0:TypeId×Value→H} {w:World} {fuel:Nat} {cs:List Value} {x:DataW H×List MemPlace},DataW.trod enc0 P w 0 (fun _=>true) true fuel t cs=some x→∃ a:α,ae w (jz w) cm (enc a) cs
theorem Xy{P:Program}{t:TypeId}(ht:P.underlying t=some (.int .i64))(hc:P.cellsOf t=1):qT P t Int :=
 ⟨hc,by decide,fun h=>by
  obtain ⟨n,rfl,_,hw⟩:=DataW.trod_int ht h;refine ⟨n,?_⟩;rw[rz,ae];simp only[Lit.wf,Z0,decide_eq_true_eq] at hw;exact ⟨rfl,hw.1,hw.2⟩⟩
theorem FR(a:Addr)(i j:Nat):(a.add i).add j=a.add (i+j):=by
 unfold Addr.add;by_cases hi:i=0 <;>by_cases hj:j=0 <;>simp[hi,hj,Nat.add_assoc]
end Go.Abs
namespace Go.Abs
open Go Go.RowKit Go.ChangeShapes
open Enc (enc)
def r0(P:Program)(t:TypeId)(l:List (TypeId×Nat)):Bool:=match P.underlying t with
 |some (.struct fs)=>fs.toList.map (fun f=>(f.type,f.offset))==l
 |_=>false
def AR(P:Program)(t:TypeId)(n:Nat)(e:TypeId):Bool:=match P.underlying t with
 |some (.array n' e')=>n'==n&&e'==e
 |_=>false
theorem Vq{P:Program}{t:TypeId}{n:Nat}{e:TypeId}(h:AR P t n e=true):P.underlying t=some (.array n e):=by
 unfold AR at h;split at h
 ·rename_i n' e' ht;simp only[Z0,beq_iff_eq] at h;rw[ht,h.1,h.2]
 ·cases h
theorem Vs{P:Program}{t:TypeId}{l:List (TypeId×Nat)}(h:r0 P t l=true):∃ fs,P.underlying t=some (.struct fs)∧fs.toList.map (fun f=>(f.type,f.offset))=l:=by
 unfold r0 at h;split at h
 ·rename_i fs ht;exact ⟨fs,ht,by simpa using h⟩
 ·cases h
theorem XH{H:Type}{enc0:TypeId×Value→H}{P:Program}{f:Func}{s:ChangeSpec}{apart ji handsOn again:Bool}{W W':World}{args:Array Value}{v:Value}{ds gs:List (DataW H)}{before pa pv:List MemPlace}
  (hW:DataW.Whole enc0 P f.params.toList s.vars apart W args.toList ds gs before)
  (hres:∀ (b:Nat) (sp:Nat→Bool) (hd:Bool),DataW.TrodAll enc0 P W' b sp hd f.resultTypes.toList (v.resultList f.resultTypes.size) (s.fn H (ds++gs)).results [])
  (hargs:∀ sp:Nat→Bool,(∀ p∈before,sp p.block=true)→DataW.TrodAll enc0 P W' 0 sp true f.params.toList args.toList (s.fn H (ds++gs)).args pa)
  (hvars:∀ sp:Nat→Bool,(∀ p∈before,sp p.block=true)→DataW.TrodVars enc0 P W' sp s.vars (s.fn H (ds++gs)).vars pv)
  (hps:before=pa++pv) (hb:Below W.heap.size W W')
  (hok:∀ (j:Nat) (t:TypeId) (r:Value),f.resultTypes[j]?=some t→(v.resultList f.resultTypes.size)[j]?=some r→Value.okWide P W' .any 0 t r) :
  s.post enc0 P f apart ji handsOn again W args v W':=by
 have hlt:∀ p∈before,p.block<W.heap.size:=fun p hp=>by simpa using hW.lt p hp
 have hold:∀ p∈before,(fun b=>decide (b<W.heap.size)) p.block=true:=fun p hp=>by simpa using hlt p hp
 refine ⟨ds,gs,before,[],pa,pv,hW,hres _ _ _,hargs _ hold,hvars _ hold,World.keptBut_mono (fun p hp=>⟨hp,?_⟩) (hb.frame (· ∈ before)),fun _ =>?_⟩
 ·rw[hps,zx0] at hp;exact Or.inr hp
 ·obtain ⟨_,_,_,_,_,hz,hn⟩:=hW;refine ⟨hok,_,_,([]++pa)++pv,⟨[]++pa,pv,trodAll_append (hargs _ (fun _ _=>rfl)) (hres _ _ _),hvars _ (fun _ _=>rfl),rfl,?_,?_⟩,?_⟩
  ·intro b off hp;have hp':MemPlace.cell b off∈before:=by rw[hps];simpa using hp
   rw[hb.frozen (p:=⟨b,off,none⟩) (hlt _ hp')];exact hz b off hp'
  ·intro ha;have:=hn ha;rw[hps] at this;simpa using this
  ·intro p hp _;rw[hps];simpa using hp
def FJ(P:Program)(u:TypeId)(n:Nat)(S:I→Prop):Prop:=P.cellsOf u=n ∧
 ∀ {H:Type} {enc0:TypeId×Value→H} {w:World} {fuel:Nat} {cs:List Value} {x:DataW H×List MemPlace},DataW.trod enc0 P w 0 (fun _=>true) true fuel u cs=some x→∃ v,S v∧ae w (jz w) cm v cs
def Xg(P:Program):Nat→List (TypeId×Nat)→List (Nat×(I→Prop))→Prop
 |_,[],[]=>True
 |o,(u,off)::l,(n,S)::Ss=>off=o∧FJ P u n S∧Xg P (o+n) l Ss
 |_,_,_=>False
def nE:List (Nat×(I→Prop))→List I→Prop
 | [],[]=>True
 |(_,S)::Ss,v::vs=>S v∧nE Ss vs
 |_,_=>False
theorem qX{n:Nat}{S:I→Prop}{Ss:List (Nat×(I→Prop))} : ∀ {vs:List I},nE ((n,S)::Ss) vs→∃ v vs',vs=v::vs'∧S v∧nE Ss vs'
 | [],h=>h.elim
 |v::vs,h=>⟨v,vs,rfl,h.1,h.2⟩
theorem xA:∀ {vs:List I},nE [] vs→vs=[]
 | [],_=>rfl
 |_::_,h=>h.elim
def qF:List (Nat×(I→Prop))→Nat
 | []=>0
 |(n,_)::Ss=>n+qF Ss
structure iJ (P:Program) (t:TypeId) (α:Type) [Enc α] (B:α→Prop):Prop where
 cells:P.cellsOf t=Enc.sz α
 sI:0<Enc.sz α
 mN:∀ {H:Type} {enc0:TypeId×Value→H} {w:World} {fuel:Nat} {cs:List Value} {x:DataW H×List MemPlace},DataW.trod enc0 P w 0 (fun _=>true) true fuel t cs=some x→(∀ k∈x.1.weights P t,k≤reachBytes)→∃ a:α,B a∧ae w (jz w) cm (enc a) cs
theorem qT.Xs{P:Program}{t:TypeId}{α:Type}[Enc α](h:qT P t α):iJ P t α fun _=>True:=⟨h.cells,h.sI,fun hx _=>by
 obtain ⟨a,ha⟩:=h.mN hx;exact ⟨a,trivial,ha⟩⟩
theorem EF{H:Type}{P:Program}{e:TypeId} : ∀ {l:List (DataW H)} {d:DataW H},d∈l→∀ n∈d.weights P e,n∈DataW.weightsAll P e l
 |d'::r,d,hd,n,hn=>by
  simp only[DataW.weightsAll,zx0];rcases zx4.1 hd with rfl | h
  ·exact .inl hn
  ·exact .inr (EF h n hn)
theorem Xt{P:Program}{t e:TypeId}{α:Type}[Enc α]{B:α→Prop}(ht:P.underlying t=some (.slice e))(he:iJ P e α B)(hc:P.cellsOf t=1):iJ P t (List α) fun l=>(∀ a∈l,B a)∧l.length*P.bytesOf e≤reachBytes :=
 ⟨hc,by rw[LS];exact Nat.one_pos,fun {H enc0 w fuel cs x} h hwt=>by
  rcases DataW.trod_slice ht h with ⟨rfl,_⟩ | ⟨a,len,cap,elems,rest,n,_,rfl,hxx,hb,hl,hm,hlen,hel,_⟩
  ·refine ⟨[],⟨by simp,by simp⟩,?_⟩;simp only[gT,zz9];rw[ae];exact ⟨none,0,rfl,Z3 _,by decide,.inl rfl,by simp⟩
  ·have hw1:∀ y∈elems,∀ k∈y.1.weights P e,k≤reachBytes:=fun y hy k hk=>by
    refine hwt k ?_;rw[hxx];simp only[DataW.weights,ht,zx4,zx0];exact .inr (.inl (EF (zy1.2 ⟨y,hy,rfl⟩) k hk))
   have hw2:len*P.bytesOf e≤reachBytes:=by
    have:=hwt ((elems.length+rest.length)*P.bytesOf e) (by rw[hxx];simp[DataW.weights,ht]);have h3:elems.length*P.bytesOf e≤(elems.length+rest.length)*P.bytesOf e:=Nat.mul_le_mul_right _ (by omega);rw[←hlen];omega
   have key:∀ k,k≤len→∃ (l:List α) (cs':List Value),l.length=k∧aB w (jz w) cm (l.map enc) cs'∧cs'.length=k*Enc.sz α∧(∀ j v,cs'[j]?=some v→w.cell? (a.add j)=some v)∧∀ b∈l,B b:=by
    intro k
    induction k with
    |zero=>exact fun _=>⟨[],[],rfl,by simp[aB],by simp,by simp,by simp⟩
    |succ k ih =>
     intro hk;obtain ⟨l,cs',h1,h2,h3,h4,hB⟩:=ih (by omega);have h5:=hel k (by omega);have h6:k<elems.length:=by omega
     rw[zz2 h6] at h5;obtain ⟨ce,h7,h8⟩:=zx3.1 h5;obtain ⟨y,hyB,hy⟩:=he.mN h8 (hw1 _ (List.getElem_mem h6));rw[he.cells] at h7;obtain ⟨_,h9,h10⟩:=World.cells?_some h7;refine ⟨l++[y],cs'++ce,by simp[h1],?_,by rw[Z1,h3,h9,Nat.succ_mul],fun j v hj =>?_,fun b hb=>(zx0.1 hb).elim (hB b) fun h=>by rw[List.mem_singleton.1 h];exact hyB⟩
     ·rw[zy4];refine iS _ _ _ _ h2 ?_;simp only[Z4,zz9,aB];exact ⟨ce,[],by simp,hy,rfl⟩
     ·rcases Nat.lt_or_ge j cs'.length with hlt | hge
      ·rw[zy3 hlt] at hj;exact h4 j v hj
      ·rw[List.getElem?_append_right hge] at hj;have hlt:j-cs'.length<Enc.sz α:=by
        have:=(Z6.1 hj).1;omega
       have:=h10 (j-cs'.length) hlt;rw[FR,←h3,Nat.add_sub_cancel' hge] at this;rw[this];exact hj
   obtain ⟨l,cs',h1,h2,h3,h4,hB⟩:=key len (Z3 _);refine ⟨l,⟨hB,by rw[h1];exact hw2⟩,?_⟩;simp only[gT,ae,Z2];refine ⟨some a,cap,by rw[h1],by omega,hm,?_,FY l⟩;by_cases hz:len=0
   ·left;have:l=[]:=List.length_eq_zero_iff.1 (by omega);rw[this];rfl
   right
   have hpos:0<cs'.length:=by rw[h3];exact Nat.mul_pos (Nat.pos_of_ne_zero hz) he.sI
   have h0:=h4 0 cs'[0] (zz2 hpos);have hsp:a.spot=none:=by
    simp only[Addr.add,if_true] at h0;unfold World.cell? at h0;split at h0
    ·split at h0
     ·cases h0
     ·rename_i hs;cases hh:a.spot <;>simp_all
    ·cases h0
   have ha:∀ j,a.add j=⟨a.block,a.off+j,none⟩:=fun j=>by
    unfold Addr.add;split
    ·rename_i hj;subst hj;cases a;simp_all
    ·rfl
   refine ⟨a.block,a.off,cs',by cases a;simp_all,fun j v hj =>?_,h2⟩;have h5:=h4 j v hj;rw[ha] at h5;refine ⟨h5,?_⟩
   show (⟨a.block,a.off+j,none⟩:Addr).block<_
   exact World.block_lt_of_cell? w _ h5⟩
theorem YQ{H:Type}{enc0:TypeId×Value→H}{P:Program}{w:World}{fuel:Nat}{t:TypeId}{l:List (TypeId×Nat)}{cs:List Value}{x:DataW H×List MemPlace}(ht:r0 P t l=true)(h:DataW.trod enc0 P w 0 (fun _=>true) true fuel t cs=some x)(hwt:∀ k∈x.1.weights P t,k≤reachBytes) :
  cs.length=P.cellsOf t∧∃ m:Nat,∀ (i:Nat) (u:TypeId) (o:Nat),l[i]?=some (u,o)→∃ y,DataW.trod enc0 P w 0 (fun _=>true) true m u ((cs.drop o).take (P.cellsOf u))=some y∧∀ k∈y.1.weights P u,k≤reachBytes:=by
 obtain ⟨fs,h1,h2⟩:=Vs ht;obtain ⟨xs,m,_,hx,h3,h4,h5⟩:=DataW.trod_struct h1 h;refine ⟨h3,m,fun i u o hi =>?_⟩;rw[←h2] at hi;simp only[zy0,t7,Prod.mk.injEq] at hi;obtain ⟨f,hf,rfl,rfl⟩:=hi;have hf':fs[i]?=some f:=by simpa using hf
 have h6:=h5 i f hf';have hlt:i<fs.size:=(zz3.1 hf').1;rw[zz2 (by omega)] at h6;refine ⟨_,h6,fun k hk=>hwt k ?_⟩;rw[hx];simp only[DataW.weights,h1];refine DataW.weights_mem_each (j:=i) ?_ ?_ k hk
 ·rw[zy0,hf];rfl
 ·rw[zy0,zz2 (by omega)];rfl
theorem Xv{P:Program}{t:TypeId}{α:Type}[Enc α]{B:α→Prop}{H:Type}{enc0:TypeId×Value→H}{w:World}{dM:Nat}{v:Value}{d:DataW H}{p:List MemPlace}(ho:iJ P t α B)(hA:Enc.gq α=true)(hst:(match P.underlying t with | some (.struct _) | some (.array _ _)=>true | _=>false)=true)(hv:Value.okWide P w .any dM t v)
  (h:DataW.Trod enc0 P w 0 (fun _=>true) true t v d p) (hwt:∀ k∈d.weights P t,k≤reachBytes):∃ (a:α),B a∧∃ (cs:List Value),aX (enc a) v cs∧ae w (jz w) cm (enc a) cs:=by
 obtain ⟨fuel,h⟩:=h;have hagg:∃ cs,v=.agg cs:=by
  unfold Value.okWide at hv;split at hst
  ·rename_i fs ht;rw[ht] at hv;obtain ⟨cs,h1,_⟩:=hv;exact ⟨cs,h1⟩
  ·rename_i n e ht;rw[ht] at hv;obtain ⟨cs,h1,_⟩:=hv;exact ⟨cs,h1⟩
  ·cases hst
 obtain ⟨cs,rfl⟩:=hagg;have e:(Value.agg cs).cells.toList=cs.toList:=rfl;rw[e] at h;obtain ⟨a,hB,ha⟩:=ho.mN h hwt;exact ⟨a,hB,cs.toList,by simp[aX,Enc.agg,hA],ha⟩
theorem VH{P:Program}{f:FuncId}{fn:Func}{s:ChangeSpec}{H:Type}{enc0:TypeId×Value→H}{W:World}{ds gs:List (DataW H)}{before:List MemPlace}{xs:List I}{tb:TypeId}{v0 v1:Value}{t0 t1:TypeId}{d0 d1:DataW H}{p0 p1:List MemPlace}{again handsOn ji:Bool}
  (hl:laidOutB P=true) (hpar:fn.params.toList=[t0,t1]) (hds:ds=[d0,d1]) (hgs:gs=[]) (hbef:before=p0++p1)
  (hvars:s.vars=[]) (hfn:s.fn H [d0,d1] = { results:=[.lit (.bool true)],args:=[d0,d1] }) (hres:fn.resultTypes = #[tb]) (htb:P.underlying tb=some .bool)
  (hW:DataW.Whole enc0 P fn.params.toList s.vars false W #[v0,v1].toList ds gs before)
  (h0:DataW.Trod enc0 P W 0 (fun _=>true) true t0 v0 d0 p0) (h1:DataW.Trod enc0 P W 0 (fun _=>true) true t1 v1 d1 p1)
  (hr:∀ t∈[t0,t1],P.readableRec t=true∧t<P.types.size)
  (hctr:aM P f xs (enc true)) (hlaid:eB P W (fun _=>False)) (hv:al W (jz W) cm xs [v0,v1]) :
  Calls P f #[v0,v1] W fun e W'=>∃ v,e=.returned v∧s.post enc0 P fn false ji handsOn again W #[v0,v1] v W':=by
 subst hds hgs;refine (hctr.2 W (jz W) [v0,v1] hlaid (fun _ _ h=>h) hv).mono fun e W' ⟨v,D',he,hrv,hb,_,_⟩=>⟨v,he,?_⟩
 have hvb:v=.bool true:=kp hrv;subst hvb;have hlt:∀ x∈before,x.block<W.heap.size:=fun x hx=>by simpa using hW.lt x hx
 rw[hbef] at hlt;refine XH (pa:=p0++(p1++[])) (pv:=[]) hW (fun _ _ _ =>?_) (fun sp hsp =>?_) (fun _ _ =>?_) (by rw[hbef];simp) hb ?_
 ·simp only[List.append_nil,hfn,hres];exact trodAll_mk1 (shut_bool htb true)
 ·simp only[List.append_nil,hfn,hpar];rw[hbef] at hsp;have aR:∀ {t:TypeId} {v:Value} {d:DataW H} {p:List MemPlace},t∈[t0,t1]→DataW.Trod enc0 P W 0 (fun _=>true) true t v d p→(∀ x∈p,x∈p0++p1)→DataW.Trod enc0 P W' 0 sp true t v d p:=fun ht h hp =>
   WideElems.Trod_stays hl (hr _ ht).1 (hr _ ht).2 h (fun x hx=>hb.same (hlt x (hp x hx))) (fun x hx=>hsp x (hp x hx))
  exact trodAll_mk2 (aR (by simp) h0 fun x hx=>by simp[hx]) (aR (by simp) h1 fun x hx=>by simp[hx])
 ·simp only[List.append_nil,hfn,hvars];rfl
 ·intro j t r hj hv';rw[hres] at hj hv'
  match j,hj,hv' with
  |0,hj,hv' =>
   simp[Value.resultList] at hj hv';subst hj;subst hv';simp[Value.okWide,htb,Cell.okWide,Cell.ok]
end Go.Abs
namespace Go.Abs
open Go Go.RowKit
open Enc (enc)
structure ak where
 b:ByteArray
 deriving DecidableEq,Inhabited
instance:Enc ak where
 enc s:=.ah s.b
 sz:=1
 aK:=.one
 gq:=false
 done _:=rfl
 size _:=by simp[I.size]
 iE _:=by simp[I.aK]
 agg _:=rfl
instance:Enc UInt8 where
 enc b:=.int .u8 b.toNat
 sz:=1
 aK:=.one
 gq:=false
 done _:=rfl
 size _:=by simp[I.size]
 iE _:=by simp[I.aK]
 agg _:=rfl
def ak.l(s:ak):List UInt8:=s.b.data.toList
def ak.of(l:List UInt8):ak:=⟨⟨l.toArray⟩⟩
theorem ak.vH(s:ak):ak.of s.l=s:=by obtain ⟨⟨⟨l⟩⟩⟩:=s;rfl
theorem ak.c8(l:List UInt8):(ak.of l).l=l:=rfl
theorem ak.L7{s t:ak}(h:s.l=t.l):s=t:=by rw[←ak.vH s,←ak.vH t,h]
theorem ak.sC{s t:List UInt8} : ak.of s=ak.of t↔s=t:=⟨fun h=>by rw[←ak.c8 s,h,ak.c8],fun h=>by rw[h]⟩
theorem ak.size(s:ak):s.b.size=s.l.length:=Lib.size_eq s.b
theorem wJ(s t:ByteArray):(s.toList==t.toList)=decide ((⟨s⟩:ak)=⟨t⟩):=by
 obtain ⟨⟨l⟩⟩:=s;obtain ⟨⟨m⟩⟩:=t;simp;by_cases h:l=m <;>simp[h]
def DN(a b:ak):ak:=⟨a.b++b.b⟩
theorem s8(s:ak):enc s=I.ah s.b:=rfl
theorem YA(a b:ak)(h:a.l.length+b.l.length≤9223372036854775807):bJ .add (enc a) (enc b)=some (enc (DN a b)):=by
 rw[←ak.size,←ak.size] at h;simp only[s8,bJ,if_pos h,DN]
theorem wk(a b:ak):bJ .eql (enc a) (enc b)=some (.bool (decide (a=b))):=by
 simp only[s8,bJ,wJ]
theorem wm(a b:ak):bJ .neq (enc a) (enc b)=some (.bool (!decide (a=b))):=by
 simp only[s8,bJ,wJ]
theorem qB(a:ak):lQ (enc a)=some (.int .i64 a.l.length):=by
 simp only[s8,lQ,ak.size]
theorem DT(a:ak){i:Nat}(h:i<a.l.length):dX .dp [enc a,.int .i64 (i:Int)]=some (.int .u8 (a.l[i].toNat:Int)):=by
 show (if 0≤(i:Int) then (a.b.data.toList[(i:Int).toNat]?).map fun b=>I.int .u8 b.toNat else none)=_
 rw[if_pos (by omega),Int.toNat_natCast,zz2 (show i<a.b.data.toList.length from h)];rfl
theorem uI(s:ByteArray)(i j:Nat):(⟨s.extract i j⟩:ak)=ak.of ((s.data.toList.drop i).take (j-i)):=ak.L7 (Lib.extract_data s i j)
theorem DU(a:ak){i j:Nat}(h:i≤j)(h2:j≤a.l.length):dX (.ss true true) [enc a,.int .i64 (i:Int),.int .i64 (j:Int)]=some (enc (ak.of ((a.l.drop i).take (j-i)))):=by
 show (if 0≤(i:Int)∧(i:Int)≤j∧(j:Int)≤a.b.size then some (I.ah (a.b.extract (i:Int).toNat (j:Int).toNat)) else none)=_
 rw[if_pos ⟨by omega,by omega,by rw[ak.size];omega⟩,Int.toNat_natCast,Int.toNat_natCast];exact congrArg (fun s:ak=>some (enc s)) (uI a.b i j)
theorem wo(a:ak){i:Nat}(h2:i≤a.l.length):dX (.ss true false) [enc a,.int .i64 (i:Int)]=some (enc (ak.of (a.l.drop i))):=by
 show (if 0≤(i:Int)∧(i:Int)≤a.b.size then some (I.ah (a.b.extract (i:Int).toNat a.b.size)) else none)=_
 rw[if_pos ⟨by omega,by rw[ak.size];omega⟩,Int.toNat_natCast];refine (congrArg (fun s:ak=>some (enc s)) (uI a.b i a.b.size)).trans ?_;rw[ak.size,List.take_of_length_le (by simp[ak.l])];rfl
theorem nd(a:ak){j:Nat}(h2:j≤a.l.length):dX (.ss false true) [enc a,.int .i64 (j:Int)]=some (enc (ak.of (a.l.take j))):=by
 show (if 0≤(j:Int)∧(j:Int)≤a.b.size then some (I.ah (a.b.extract 0 (j:Int).toNat)) else none)=_
 rw[if_pos ⟨by omega,by rw[ak.size];omega⟩,Int.toNat_natCast];exact congrArg (fun s:ak=>some (enc s)) (uI a.b 0 j)
theorem DQ(n:Int):gD 1 (some [.int .u8 n])=some (.slice 1 [.int .u8 n]):=by
 simp[gD,I.size,I.b9,I.bu]
theorem DP(A:ab)(n:Int):kI (cR A 1 (.slice 1 [.int .u8 n]))=some (enc (ak.of [UInt8.ofNat n.toNat])):=rfl
theorem qC(b:UInt8):enc b=I.int .u8 (b.toNat:Int):=rfl
theorem DS(s:ak):lr (enc s)=some (s.l.map enc):=rfl
theorem DM{A:ab}{d:Nat}{k:ab→bW}{l:List UInt8}(hd:A.o d=none) :
  ∃ p:Nat→Prop,hZ A (some d) k (some (l.map enc))=.any p fun m=>k ((A.aP d (.box (.agg ((l++List.replicate m 0).map enc)))).aN (some d) (.view d [] 1 0 l.length)):=by
 refine ⟨fun m=>(l.map enc).length+m≤maxLen,?_⟩;have e:∀ m,(l++List.replicate m (0:UInt8)).map enc=l.map enc++List.replicate m (I.int .u8 0):=fun m=>by
  rw[zy4,List.map_replicate];rfl
 simp only[hZ,hd,e,Z2]
theorem aY.dU{P:Program}{Y:Value→List I→List (Nat×ai)→bY→Prop}{K:ab→Prop}{ts:List (Nat×I)}{os:List (Nat×ai)}{d:Nat}{rest:List av}{l:List UInt8}(hd:aJ os d=none)
  (h:∀ m,aY P Y false K (aq rest (ay ((d,.view d [] 1 0 l.length)::ts) ((d,.box (.agg ((l++List.replicate m 0).map enc)))::os)))):aY P Y false K (hZ (ay ts os) (some d) (aq rest) (some (l.map enc))):=by
 obtain ⟨p,e⟩:=DM (A:=ay ts os) (k:=aq rest) (l:=l) hd;rw[e];exact .any rfl fun m _=>h m
theorem z6{A:ab}{n:Nat}{l q:List UInt8}(h:A.o n=some (.box (.agg ((l++q).map enc)))):ba true A (.view n [] 1 0 l.length)=some (enc l):=by
 have h1:ba true A (.view n [] 1 0 l.length)=kR 1 0 l.length (some ((l++q).map enc)):=by
  rw[uR,h];rfl
 have e:kR 1 0 l.length (some ((l++q).map enc))=some (enc ((l++q).take l.length)):=rE rfl;rw[h1,e,List.take_left]
theorem bH.dU{P:Program}{Y:Value→List I→List (Nat×ai)→bY→Prop}{hs:List FuncId}{K:ab→Prop}{ts:List (Nat×I)}{os:List (Nat×ai)}{d:Nat}{rest:List av}{l:List UInt8}(hd:aJ os d=none)
  (h:∀ m,bH P Y hs K (aq rest (ay ((d,.view d [] 1 0 l.length)::ts) ((d,.box (.agg ((l++List.replicate m 0).map enc)))::os)))):bH P Y hs K (hZ (ay ts os) (some d) (aq rest) (some (l.map enc))):=by
 obtain ⟨p,e⟩:=DM (A:=ay ts os) (k:=aq rest) (l:=l) hd;rw[e];exact .any fun m _=>h m
theorem DR(a:ak):bV none (enc a)=true:=rfl
theorem bd :
  (∀ d rest A p xs,bn A d (.prim p xs) rest=b7 (dX p (xs.map (af A))) (cC d rest A))∧(∀ d rest A x,bn A d (.b2s x) rest=b7 (kI (cR A 1 (af A x))) (cC d rest A)) ∧
  (∀ b,dX (.mI b) [.cQ]=some (.bool (!b)))∧(∀ b t v,dX (.mI b) [.iface t v]=some (.bool b))∧(type_of% @wk)∧(type_of% @wm)∧(type_of% @qB)∧(type_of% @DQ)∧(type_of% @DP)∧(type_of% @DR)∧(∀ d rest A x,bn A d (.dU x) rest=hZ A d (aq rest) (lr (af A x)))∧(type_of% @DS)∧(∀ a b,dX .min2 [.int .i64 a,.int .i64 b]=some (.int .i64 (if b<a then b else a))) ∧
  (∀ a b,bJ .eql (.int .u8 a) (.int .u8 b)=some (.bool (a==b)))∧(∀ a b,bJ .neq (.int .u8 a) (.int .u8 b)=some (.bool (a != b)))∧(∀ a b,bJ .lss (.int .u8 a) (.int .u8 b)=some (.bool (decide (a<b))))∧(∀ a b,bJ .gtr (.int .u8 a) (.int .u8 b)=some (.bool (decide (a>b)))) ∧
  (∀ a b,bJ .leq (.int .u8 a) (.int .u8 b)=some (.bool (decide (a≤b))))∧(∀ a b,bJ .geq (.int .u8 a) (.int .u8 b)=some (.bool (decide (a≥b))))∧(∀ a b,bJ .sub (.int .u8 a) (.int .u8 b)=some (.int .u8 (IntKind.u8.wrap (a-b)))) :=
 ⟨fun _ _ _ _ _=>rfl,fun _ _ _ _=>rfl,fun _=>rfl,fun _ _ _=>rfl,wk,wm,qB,DQ,DP,DR,fun _ _ _ _=>rfl,DS,fun _ _=>rfl,fun _ _=>rfl,fun _ _=>rfl,fun _ _=>rfl,fun _ _=>rfl,fun _ _=>rfl,fun _ _=>rfl,fun _ _=>rfl⟩
end Go.Abs
namespace Go.Abs
open Go
open Enc (enc)
def jf(c:UInt8)(gP:Bool):List UInt8→List (List UInt8)
 | []=>[[]]
 |b::l=>if b=c then (if gP then [b] else [])::jf c gP l else match jf c gP l with
  |h::t=>(b::h)::t
  | []=>[[b]]
theorem KO(c:UInt8)(gP:Bool)(l:List UInt8):jf c gP l≠[]:=by
 cases l with
 |nil=>simp[jf]
 |cons b l =>
  simp only[jf];split
  ·simp
  ·split <;>simp
theorem zy{c:UInt8}{gP:Bool} : ∀ {l:List UInt8},(∀ b∈l,b≠c)→jf c gP l=[l]
 | [],_=>rfl
 |b::l,h=>by
  simp only[jf,if_neg (h b (by simp)),zy (l:=l) fun x hx=>h x (by simp[hx])]
theorem zx{c:UInt8}{gP:Bool} : ∀ {x:List UInt8} (y:List UInt8),(∀ b∈x,b≠c)→jf c gP (x++c::y)=(x++if gP then [c] else [])::jf c gP y
 | [],y,_=>by cases gP <;>simp[jf]
 |b::x,y,h=>by
  simp only[zz4,jf,if_neg (h b (by simp)),zx (x:=x) y fun z hz=>h z (by simp[hz])]
def fT(b:UInt8):Bool:=decide (48≤b.toNat∧b.toNat≤57)
def ed(acc:Nat):List UInt8→Option Nat
 | []=>some acc
 |b::l=>if fT b then ed (acc*10+(b.toNat-48)) l else none
def sy(most:Nat)(w:List UInt8):Option Nat:=if w=[]∨most<w.length∨(w.head?=some 48∧1<w.length) then none else ed 0 w
theorem zB(x y:List UInt8):∀ acc,ed acc (x++y)=(ed acc x).bind fun n=>ed n y:=by
 induction x with
 |nil=>intro acc;rfl
 |cons b x ih =>
  intro acc;simp only[zz4,ed];split
  ·exact ih _
  ·rfl
theorem zC:∀ (l:List UInt8) (acc n:Nat),ed acc l=some n→n<(acc+1)*10^l.length
 | [],acc,n,h=>by simp only[ed,v6] at h;simp;omega
 |b::l,acc,n,h=>by
  simp only[ed] at h;split at h
  case isFalse=>cases h
  rename_i hd;simp only[fT,decide_eq_true_eq] at hd;have:=zC l _ n h;have h2:(acc*10+(b.toNat-48)+1)*10^l.length≤((acc+1)*10)*10^l.length:=Nat.mul_le_mul_right _ (by omega);rw[zz5,Nat.pow_succ]
  calc n<_:=this
   _≤_:=h2
   _=_:=by rw[Nat.mul_assoc,Nat.mul_comm 10 (10^l.length)]
theorem Lm{l:List UInt8}{n k:Nat}(h:ed 0 l=some n)(hl:l.length≤k):n<10^k:=by
 have:=zC l 0 n h;have h2:10^l.length≤10^k:=Nat.pow_le_pow_right (by omega) hl;omega
theorem BW:∀ (l:List UInt8) (acc:Nat),(acc+1)*10^l.length≤1000000000000000000→Lib.parseUint10 acc l=match ed acc l with | some n=>.ok n | none=>Lib.parseUint10 0 [97]
 | [],acc,_=>rfl
 |b::l,acc,h=>by
  have hp:1≤10^l.length:=Nat.one_le_pow _ _ (by decide);rw[zz5,Nat.pow_succ] at h;have hacc:(acc+1)*10≤1000000000000000000:=by
   calc (acc+1)*10=(acc+1)*(1*10):=by omega
    _≤(acc+1)*(10^l.length*10):=Nat.mul_le_mul_left _ (Nat.mul_le_mul_right _ hp)
    _≤_:=h
  simp only[Lib.parseUint10,ed,fT,decide_eq_true_eq];split
  ·rename_i hd;rw[if_neg (by omega),if_neg (by omega)];refine BW l _ ?_
   calc (acc*10+(b.toNat-48)+1)*10^l.length≤((acc+1)*10)*10^l.length:=Nat.mul_le_mul_right _ (by omega)
    _=(acc+1)*(10^l.length*10):=by rw[Nat.mul_assoc,Nat.mul_comm 10 (10^l.length)]
    _≤_:=h
  ·rfl
theorem AH{x y:List UInt8}(h:x≠[]):(x++y).head?=x.head?:=by cases x with
 |nil=>exact absurd rfl h
 |cons _ _=>rfl
theorem zF(d:Nat)(h:d<10):(UInt8.ofNat (48+d)).toNat=48+d:=by simp;omega
theorem rv{u:Nat}(h:¬ u<10):Lib.decDigits u=Lib.decDigits (u / 10)++[UInt8.ofNat (48+u%10)]:=by
 rw[Lib.decDigits,dif_neg h]
theorem px:∀ u:Nat,ed 0 (Lib.decDigits u)=some u∧Lib.decDigits u≠[]∧((Lib.decDigits u).head?=some 48→u=0)
 |u=>by
  by_cases h:u<10
  ·rw[Lib.decDigits_one h];have e:=zF u h;refine ⟨?_,by simp,fun h0 =>?_⟩
   ·have hd:fT (UInt8.ofNat (48+u))=true:=by simp only[fT,e,decide_eq_true_eq];omega
    simp only[ed,hd,if_true,e]
    congr 1;omega
   ·simp only[List.head?_cons,v6] at h0;have:=congrArg UInt8.toNat h0;rw[e] at this;simpa using this
  ·obtain ⟨h1,h2,h3⟩:=px (u / 10);rw[rv h];have e:=zF (u%10) (by omega);refine ⟨?_,by simp,fun h0 =>?_⟩
   ·rw[zB,h1];have hd:fT (UInt8.ofNat (48+u%10))=true:=by simp only[fT,e,decide_eq_true_eq];omega
    simp only[zx1,ed,hd,if_true,e]
    congr 1;omega
   ·rw[AH h2] at h0;have:=h3 h0;omega
termination_by u=>u
decreasing_by omega
theorem zE:∀ (k:Nat) (w:List UInt8) (n:Nat),w.length≤k→w≠[]→¬ (w.head?=some 48∧1<w.length)→ed 0 w=some n→Lib.decDigits n=w
 |0,w,n,hk,hne,_,_=>absurd (zy9 (by omega)) hne
 |k+1,w,n,hk,hne,hz,h=>by
  have hw:=List.dropLast_concat_getLast hne;generalize w.getLast hne=b at hw;generalize w.dropLast=x at hw;subst hw;rw[zB] at h;cases hx:ed 0 x with
  |none=>rw[hx] at h;cases h
  |some m =>
   rw[hx] at h;simp only[zx1,ed] at h;split at h
   case isFalse=>cases h
   rename_i hd;simp only[v6] at h;simp only[fT,decide_eq_true_eq] at hd;have hb:UInt8.ofNat (48+(b.toNat-48))=b:=by
    rw[show 48+(b.toNat-48)=b.toNat by omega];simp
   by_cases hx0:x=[]
   ·subst hx0;simp only[ed,v6] at hx;subst hx;have hn:n=b.toNat-48:=by omega
    rw[Lib.decDigits_one (show n<10 by omega),hn,hb];rfl
   ·have hl:x.length+1≤k+1:=by simpa using hk
    have hz':¬ (x.head?=some 48):=fun e=>hz ⟨by rw[AH hx0];exact e,by have:=zx2.2 hx0;simp;omega⟩;have ih:=zE k x m (by omega) hx0 (fun e=>hz' e.1) hx;have hm:m≠0:=fun e=>by
     subst e;rw[Lib.decDigits_one (by omega)] at ih;rw[←ih] at hz';exact hz' rfl
    rw[rv (show ¬ n<10 by omega),show n / 10=m by omega,ih,show n%10=b.toNat-48 by omega,hb]
theorem Wp{most:Nat}(hm:most≤18){w:List UInt8}{n:Nat}(h:sy most w=some n):Lib.atoiAll w=.ok (n:Int)∧w.length≤most∧Lib.itoa (n:Int)=w∧n<10^most:=by
 simp only[sy] at h;split at h
 ·cases h
 rename_i hc;rw[not_or,not_or] at hc;obtain ⟨h1,h2,h3⟩:=hc;have hs:=Lm h (show w.length≤most by omega);have hb:n<9223372036854775808:=by
  have h5:10^most≤10^18:=Nat.pow_le_pow_right (by omega) hm;omega
 have hd:=zE w.length w n (Z3 _) h1 h3 h;refine ⟨?_,by omega,by rw[Lib.itoa_nonneg];exact hd,hs⟩;cases w with
 |nil=>exact absurd rfl h1
 |cons c r =>
  have hdc:fT c=true:=by
   simp only[ed] at h;split at h
   ·assumption
   ·cases h
  simp only[fT,decide_eq_true_eq] at hdc;have hp:=BW (c::r) 0 (by
   have:10^(c::r).length≤10^18:=Nat.pow_le_pow_right (by omega) (by omega);omega)
  rw[h] at hp;simp only[Lib.atoiAll];rw[if_neg (by omega),Lib.parseMag,if_neg (by simp),hp];simp only;rw[if_neg (by omega),if_neg (by omega),if_neg (by omega)]
theorem Lp{n:Int}(h:0≤n){c:UInt8}(hc:c.toNat<48):∀ b∈Lib.itoa n,b≠c:=by
 obtain ⟨m,rfl⟩:=zz1 h;rw[Lib.itoa_nonneg];have key:∀ (l:List UInt8) (acc:Nat),ed acc l≠none→∀ b∈l,b≠c:=by
  intro l
  induction l with
  |nil=>intro _ _ b hb;cases hb
  |cons x l ih =>
   intro acc hne b hb;simp only[ed] at hne;split at hne
   case isFalse=>exact absurd rfl hne
   rename_i hd;simp only[fT,decide_eq_true_eq] at hd;rcases zx4.1 hb with rfl | hb
   ·intro e;rw[e] at hd;omega
   ·exact ih _ hne b hb
 exact key _ 0 (by rw[(px m).1];simp)
theorem Ea{α:Type}[Enc α](A:ab){l:List α}{esz:Nat}{k:Nat}(hs:Enc.sz α=esz)(h:k≤l.length):jw A esz none (some (.int .i64 (k:Int))) none (enc l)=some (enc (l.take k)):=by
 simp only[jw,gT,hs,if_true,iF,gR,Z2];rw[if_pos (by omega)];simp only[Option.isSome_none,Z8,false_and,if_false,Int.toNat_natCast,Int.toNat_zero,List.drop_zero];rw[List.map_take]
end Go.Abs
namespace Go.Abs
open Go Go.Shelf Go.Proofs
open Enc (enc)
theorem Gi{w:World}{D:aI}{x y:ak}{vs:List Value}(hv:al w D cm [enc x,enc y] vs):vs=[.string x.b,.string y.b]:=by
 have hv':al w D cm [.ah x.b,.ah y.b] vs:=hv;simp only[al] at hv';obtain ⟨v,rest,cs,rfl,h1,h2,v2,rest2,cs2,rfl,h3,h4,rfl⟩:=hv';rw[(fN (fj h1 h2)).1,(fN (fj h3 h4)).1]
theorem KL{P:Program}{ρ:Ren}(ao:Lays.n104 P ρ)(hc:dO P (ρ.f 104)=true)(s p:ak):aM P (ρ.f 104) [enc s,enc p] (.tuple [enc (ak.of (Lib.trimSuffix s.l p.l)),enc (Lib.hasSuffix s.l p.l)]):=by
 refine ⟨hc,fun w D vs hl hD hv =>?_⟩;have hsz:s.b.size≤maxLen:=by
  have hv':al w D cm [.ah s.b,.ah p.b] vs:=hv;simp only[al] at hv';obtain ⟨v,rest,cs,rfl,h1,h2,_⟩:=hv';exact (fN (fj h1 h2)).2
 rw[Gi hv];refine (Any.strings_CutSuffix ao s.b p.b w (by unfold maxLen at hsz;omega)).mono ?_;rintro e w' ⟨rfl,rfl⟩;refine ⟨_,D,rfl,⟨[_,_],rfl,?_⟩,Go.RowKit.Below.refl _ w',hD,fun _ _ h _=>h⟩;simp only[al];refine ⟨_,_,[_],rfl,by simp[aX,I.isAgg,enc];rfl,?_,_,_,[_],rfl,by simp[aX,I.isAgg,enc];rfl,?_,rfl⟩
 ·show ae _ _ _ (.ah _) _
  simp only[ae];refine ⟨rfl,?_⟩
  show (Lib.trimSuffix s.l p.l).toArray.size≤maxLen
  have h1:(Lib.trimSuffix s.l p.l).length≤s.l.length:=by unfold Lib.trimSuffix;split <;>simp
  rw[ak.size] at hsz;simp only[List.size_toArray];omega
 ·show ae _ _ _ (.bool _) _
  simp only[ae];rfl
def gC(T:TypeId)(l:List UInt8):I:=match Lib.atoiAll l with
 | .ok v=>.tuple [enc v,.cQ]
 | .range=>.tuple [enc (Lib.atoiSat l),.iface T .any]
 | _ =>.tuple [enc (0:Int),.iface T .any]
theorem KJ {P : Program} {ρ : Ren} (ao : LaysC.n172 P ρ) (hc : dO P (ρ.f 172) = true) (g1 : P.globalNamed "strconv.ErrSyntax" = some (ρ.g 15)) (g2 : P.globalNamed "strconv.ErrRange" = some (ρ.g 16)) {T : TypeId} (hT : ρ.t 168 = T) (s : ak) (hs : s.l.length ≤ 281474976710656) : aM P (ρ.f 172) [enc s] (gC T s.l) := by
 refine ⟨hc,fun w D vs hl hD hv =>?_⟩;subst hT;have hv':al w D cm [.ah s.b] vs:=hv;simp only[al] at hv';obtain ⟨v,rest,cs,rfl,h1,h2,rfl⟩:=hv';rw[(fN (fj h1 h2)).1];rw[←ak.size] at hs;obtain ⟨_, hv1, t1, p1, rfl⟩ := hl.rQ (n := "strconv.ErrSyntax") (k := .nS) (by simp [mE]) g1
 obtain ⟨_, hv2, t2, p2, rfl⟩ := hl.rQ (n := "strconv.ErrRange") (k := .nS) (by simp [mE]) g2
 have fail:∀ (n:Int) (w':World) (N:Nat),IntKind.i64.min≤n∧n≤IntKind.i64.max→Go.RowKit.Below w.heap.size w w' →
   ∃ v D',(Ending.returned (.tuple #[.int .i64 n,.iface (ρ.t 168) (.pointer (some ⟨N,0,none⟩))])=.returned v)∧aQ w' D' cm (.tuple [enc n,.iface (ρ.t 168) .any]) v∧Go.RowKit.Below w.heap.size w w'∧(∀ b o,D' b o→b<w'.heap.size)∧∀ b o,D' b o→b<w.heap.size→D b o:=by
  intro n w' N hn hb;refine ⟨_,D,rfl,⟨[_,_],rfl,?_⟩,hb,fun b o hd=>Nat.lt_of_lt_of_le (hD b o hd) hb.size,fun _ _ h _=>h⟩;simp only[al];refine ⟨_,_,[_],rfl,by simp[aX,I.isAgg,enc];rfl,?_,_,_,[_],rfl,by simp[aX,I.isAgg];rfl,?_,rfl⟩
  ·show ae _ _ _ (.int .i64 n) _
   simp only[ae,true_and];exact hn
  ·simp only[ae];exact ⟨_,[_],rfl,by simp[aX,I.isAgg];rfl,_,rfl,rfl⟩
 have hmin:IntKind.i64.min=-9223372036854775808:=by decide
 have hmax:IntKind.i64.max=9223372036854775807:=by decide
 cases hr:Lib.atoiAll s.b.data.toList with
 |ok n =>
  refine (Any.strconv_Atoi_ok ao s.b (by omega) n hr w).mono ?_;rintro e w' ⟨rfl,hw⟩;have hb:Go.RowKit.Below w.heap.size w w':=by
   rcases hw with rfl | ⟨t,rfl⟩
   ·exact Go.RowKit.Below.refl _ _
   ·exact Lib.bytesWorld_below _ _ _
  have hn:=Lib.atoiAll_bounds hr;have e0:gC (ρ.t 168) s.l=.tuple [enc n,.cQ]:=by
   show gC (ρ.t 168) s.b.data.toList=_
   simp only[gC,hr]
  rw[e0];refine ⟨_,D,rfl,⟨[_,_],rfl,?_⟩,hb,fun b o hd=>Nat.lt_of_lt_of_le (hD b o hd) hb.size,fun _ _ h _=>h⟩;simp only[al];refine ⟨_,_,[_],rfl,by simp[aX,I.isAgg,enc];rfl,?_,_,_,[_],rfl,by simp[aX,I.isAgg];rfl,?_,rfl⟩
  ·show ae _ _ _ (.int .i64 n) _
   simp only[ae,true_and];rw[hmin,hmax];omega
  ·simp only[ae]
 |range =>
  have e0:gC (ρ.t 168) s.l=.tuple [enc (Lib.atoiSat s.l),.iface (ρ.t 168) .any]:=by
   show gC (ρ.t 168) s.b.data.toList=_
   simp only[gC,hr];rfl
  rw[e0];refine (Any.strconv_Atoi_range_var ao s.b hs hr t2 p2 w hv2).mono ?_;rintro e w' ⟨N,rfl,_,_,hb⟩;have hn:=Lib.atoiSat_bounds s.b.data.toList;exact fail _ w' N (by rw[hmin,hmax];exact hn) hb
 | _ =>
  have e0:gC (ρ.t 168) s.l=.tuple [enc (0:Int),.iface (ρ.t 168) .any]:=by
   show gC (ρ.t 168) s.b.data.toList=_
   simp only[gC,hr]
  rw[e0];refine (Any.strconv_Atoi_syntax_var ao s.b hs hr t1 p1 w hv1).mono ?_;rintro e w' ⟨N,rfl,_,_,hb⟩;exact fail 0 w' N (by rw[hmin,hmax];omega) hb
end Go.Abs
namespace Go.Abs
open Go Go.Shelf Go.Proofs
open Enc (enc)
def vf(n:Int):ak:=ak.of (Lib.itoa n)
open Go.Sort Go.RowKit in
theorem tZ(w:World)(k:Nat)(os:Array Obj):Go.RowKit.Below w.heap.size w (grow (w.drewN k) os) :=
 ⟨rfl,rfl,rfl,by simp,fun i hi=>by rw[heap_grow_old _ _ (by simpa using hi)];rfl⟩
theorem KN{P:Program}{ρ:Ren}(ao:LaysM.n171 P ρ)(hc:dO P (ρ.f 171)=true){g:Nat}(hg:P.globalNamed r3=some g)(n:Int):aM P (ρ.f 171) [enc n] (enc (vf n)):=by
 refine ⟨hc,fun w D vs hl hD hv =>?_⟩;have hv':al w D cm [.int .i64 n] vs:=hv;simp only[al] at hv';obtain ⟨v,rest,cs,rfl,h1,h2,rfl⟩:=hv';obtain ⟨rfl,h3,h4⟩:=dn (fj h1 h2);have h3':-9223372036854775808≤n:=h3;have h4':n≤9223372036854775807:=h4;obtain ⟨_,htab,rfl⟩:=hl.rQ (n:=r3) (k:=.sJ) (by simp[mE]) hg;refine (Any.strconv_Itoa ao n h3' h4' w htab).mono ?_;rintro e w' ⟨rfl,k,os,rfl⟩;refine ⟨_,D,rfl,⟨[.string ⟨(Lib.itoa n).toArray⟩],by simp[aX,I.isAgg,enc],?_⟩,tZ w k os,fun b o hd=>Nat.lt_of_lt_of_le (hD b o hd) (tZ w k os).size,fun _ _ h _=>h⟩;have hlen:=Lib.itoa_length_le n h3' h4'
 show ae _ _ _ (.ah _) _
 simp only[ae];refine ⟨rfl,?_⟩
 show (Lib.itoa n).toArray.size≤maxLen
 simp only[List.size_toArray,maxLen];omega
theorem wI{w:World}{D:aI}{s:ak}{p:List I}{vs:List Value}(hv:al w D cm (enc s::p) vs):∃ rest,vs=.string s.b::rest∧s.b.size≤maxLen∧al w D cm p rest:=by
 have hv':al w D cm (.ah s.b::p) vs:=hv;simp only[al] at hv';obtain ⟨v,rest,cs,rfl,h1,h2,h3⟩:=hv';obtain ⟨rfl,h4⟩:=fN (fj h1 h2);exact ⟨rest,rfl,h4,h3⟩
theorem DH{w:World}{D:aI}{E:aO}{l:List UInt8}(h:l.length≤maxLen):aQ w D E (enc (ak.of l)) (.string ⟨l.toArray⟩):=by
 refine ⟨[.string ⟨l.toArray⟩],by simp[aX,I.isAgg,enc,ak.of],?_⟩
 show ae _ _ _ (.ah _) _
 simp only[ae];exact ⟨rfl,by show l.toArray.size≤maxLen;simpa using h⟩
theorem KM{P:Program}{ρ:Ren}(ao:Lays.n137 P ρ)(hc:dO P (ρ.f 137)=true)(s:ak)(c:UInt8):aM P (ρ.f 137) [enc s,.int .u8 c.toNat] (enc (Lib.indexByte s.l c)):=by
 refine ⟨hc,fun w D vs hl hD hv =>?_⟩;obtain ⟨rest,rfl,hsz,hv2⟩:=wI hv;simp only[al] at hv2;obtain ⟨v,rest2,cs,rfl,h1,h2,rfl⟩:=hv2;obtain ⟨rfl,_⟩:=dn (fj h1 h2);have key:=Any.strings_IndexByte ao s.b (c.toNat:Int) w;have hcc:((c.toNat:Int)).toNat.toUInt8=c:=by simp
 rw[hcc] at key;refine Calls.mono key ?_;rintro e w' ⟨rfl,rfl⟩;refine ⟨_,D,rfl,⟨[_],by simp[aX,I.isAgg,enc];rfl,?_⟩,Go.RowKit.Below.refl _ w',hD,fun _ _ h _=>h⟩
 show ae _ _ _ (.int .i64 (Lib.indexByte s.l c)) _
 simp only[ae];refine ⟨rfl,?_⟩;have g1:=Lib.indexByte_ge s.l c;have g2:∀ l:List UInt8,Lib.indexByte l c≤l.length:=by
  intro l
  induction l with
  |nil=>simp[Lib.indexByte]
  |cons b l ih =>
   unfold Lib.indexByte
   (repeat' split) <;>simp only[zz5] <;>omega
 have g3:=g2 s.l;rw[ak.size] at hsz;have hmin:IntKind.i64.min=-9223372036854775808:=by decide
 have hmax:IntKind.i64.max=9223372036854775807:=by decide
 unfold maxLen at hsz;rw[hmin,hmax];omega
theorem KK{P:Program}{ρ:Ren}(ao:LaysM.n316 P ρ)(hc:dO P (ρ.f 316)=true)(s:ak)(hs:s.l.length≤281474976710656):aM P (ρ.f 316) [enc s] (enc s):=by
 refine ⟨hc,fun w D vs hl hD hv =>?_⟩;obtain ⟨rest,rfl,hsz,hv2⟩:=wI hv;simp only[al] at hv2;subst hv2;refine (Any.stringslite_Clone ao s.b w (by rw[ak.size];exact hs)).mono ?_;rintro e w' ⟨rfl,hb⟩;refine ⟨_,D,rfl,⟨[_],by simp[aX,I.isAgg,enc];rfl,?_⟩,hb,fun b o hd=>Nat.lt_of_lt_of_le (hD b o hd) hb.size,fun _ _ h _=>h⟩
 show ae _ _ _ (.ah s.b) _
 simp only[ae,true_and];exact hsz
end Go.Abs
namespace Go.Abs
open Go
theorem ur:∀ (k n:Nat),n<10^(k+1)→(Lib.decDigits n).length≤k+1
 |0,n,h=>by rw[Lib.decDigits_one (by omega)];simp
 |k+1,n,h=>by
  by_cases q:n<10
  ·rw[Lib.decDigits_one q];simp
  ·rw[rv q,Z1];have:=ur k (n / 10) (by rw[Nat.pow_succ] at h;omega);simp only[zz5,zy6];omega
theorem Wo{k n:Nat}(h:n<10^(k+1)):sy (k+1) (Lib.itoa (n:Int))=some n:=by
 rw[Lib.itoa_nonneg];obtain ⟨h1,h2,h3⟩:=px n;have hl:=ur k n h;simp only[sy];rw[if_neg,h1];rintro (h | h | ⟨h4,h5⟩)
 ·exact h2 h
 ·omega
 ·rw[h3 h4,Lib.decDigits_one (by omega)] at h5;simp at h5
theorem VA{n:Int}(h:0≤n):Lib.itoa n≠[]:=by
 obtain ⟨m,rfl⟩:=zz1 h;rw[Lib.itoa_nonneg];exact (px m).2.1
theorem pQ{k:Nat}{n:Int}(h:0≤n∧n<((10^(k+1):Nat):Int)):(Lib.itoa n).length≤k+1:=by
 obtain ⟨m,rfl⟩:=zz1 h.1;rw[Lib.itoa_nonneg];exact ur k m (by omega)
end Go.Abs
namespace Go.Abs
open Go Go.RowKit
open Enc (enc)
def r2:Option Nat→Code
 |none=>.ret
 |some id=>.exit id
def uG:Option Nat→Exit
 |none=>.ret
 |some id=>.exit id
def oU(o:Obj)(A:ab)(os:List (Nat×ai)):Prop:=∀ n x,aJ (bO o os) n=some x→A.o n=some x∧x.only (aH (bO o os))=true∧x.ep=true
def Dz(o:Obj)(In:List (Nat×ai)→Prop)(Ix:Option Nat→List (Nat×ai)→Prop):Exit→ab→Prop
 | .normal,A=>∃ os,oU o A os∧In os
 | .ret,A=>∃ os,oU o A os∧Ix none os
 | .exit id,A=>∃ os,oU o A os∧Ix (some id) os
 |_,_=>False
section
variable {c:cd} {Q:Exit→ab→Prop}
theorem Vl{o:Obj}{A:ab}{os:List (Nat×ai)}(h:oU o A os)(o':Obj):∀ n x,aJ (bO o' os) n=some x→(A.aP 1999999 (.df o')).o n=some x∧x.only (aH (bO o' os))=true∧x.ep=true:=fun n x hx=>by
 have e:aH (bO o' os)=aH (bO o os):=by funext m;rw[jL,jL]
 rw[e];by_cases hn:n=1999999
 ·subst hn;rw[oo,if_pos rfl,v6] at hx;subst hx;exact ⟨by simp[ab.aP],rfl,rfl⟩
 ·rw[oo,if_neg hn] at hx;obtain ⟨h1,h2⟩:=h n x (by rw[oo,if_neg hn];exact hx);exact ⟨by simp only[ab.aP,if_neg hn];exact h1,h2⟩
end
mutual
theorem mT{ρ:Nat→Nat}(h:∀ n,ρ n=n):∀ x:I,x.aS ρ=x
 | .agg fs | .tuple fs=>by simp only[I.aS];rw[ln h fs]
 | .slice _ es=>by simp only[I.aS];rw[ln h es]
 | .ref x=>by simp only[I.aS];rw[mT h x]
 | .func _ caps=>by simp only[I.aS];rw[ln h caps]
 | .iface _ v=>by simp only[I.aS];rw[mT h v]
 | .ptr _ _ | .own _ _ | .view _ _ _ _ _ | .mref _ | .cU _=>by simp only[I.aS,h]
 | .cZ ks vs=>by simp only[I.aS];rw[ln h ks,ln h vs]
 | .bool _ | .int _ _ | .ah _ | .nilp | .dc | .cQ | .any | .raw _ | .nils _ | .c0 _ | .undef | .cX=>by simp only[I.aS]
theorem ln{ρ:Nat→Nat}(h:∀ n,ρ n=n):∀ xs:List I,I.cW ρ xs=xs
 | []=>rfl
 |x::xs=>by simp only[I.cW];rw[mT h x,ln h xs]
end
theorem ai.mT{ρ:Nat→Nat}(h:∀ n,ρ n=n):∀ x:ai,x.aS ρ=x
 | .box x=>by simp only[ai.aS,Abs.mT h]
 | .bF _ _ es=>by simp only[ai.aS,ln h]
 | .df _=>rfl
 | .dK _ _=>rfl
 | .bZ _ _=>by simp only[ai.aS,ln h]
 | .it _ _ _ _=>by simp only[ai.aS,ln h]
theorem Yc(os:List (Nat×ai)):c7 [] os=os:=by
 simp only[c7];have:(fun q:Nat×ai=>(bp [] q.1,q.2.aS (bp [])))=id:=by
  funext q
  rw[ai.mT (ρ:=bp []) (fun n=>rfl)];rfl
 rw[this,List.map_id]
theorem Be(a b:List (Nat×ai))(n:Nat):aJ (a++b) n=match aJ a n with
  |some x=>some x
  |none=>aJ b n:=by
 induction a with
 |nil=>rfl
 |cons q a ih =>
  obtain ⟨k,v⟩:=q;simp only[zz4,aJ];split
  ·rfl
  ·exact ih
theorem fb.none{os os':List (Nat×ai)}(h:fb os os'){n:Nat}(hn:n<1000000):aJ os' n=none:=by
 cases hx:aJ os' n with
 |none=>rfl
 |some x =>
  have h1:aH os' n=true:=by simp[aH,hx]
  rw[h.same] at h1;exact absurd (h.lO n h1) (by omega)
theorem bw.slots{ts ts':List (Nat×I)}{os os':List (Nat×ai)}(h1:cj ts ts')(h2:∀ n,aJ os n=aJ os' n):bw (ay ts os) (ay ts' os'):=by
 have e:ay ts os=ay ts os':=by
  simp only[ay];congr 1;funext n;exact h2 n
 rw[e];rintro c a w ⟨D,E,hs⟩;refine ⟨D,E,hs.sz,hs.ee,fun t =>?_,hs.di,hs.cJ,hs.cM,hs.bx,hs.cv,hs.dx,hs.eE,hs.cu,hs.eH,hs.eY⟩;rcases wK h1 t with h | h
 ·simp only[ay];rw[h];simp[aQ]
 ·have:=hs.dz t;simp only[ay] at *;rw[h];exact this
theorem xK{os osk os2 ow:List (Nat×ai)}{ts:List (Nat×I)}(h1:fb os osk)(h2:fb os os2)(how:∀ m,aH ow m=true→m<1000000):ay ts (c7 [] os2++(ow++osk))=ay ts (ow++os2):=by
 simp only[ay,Yc]
 congr 1
 funext n
 simp only[Be];cases hw:aJ ow n with
 |none =>
  simp only;cases h3:aJ os2 n with
  |some x=>rfl
  |none =>
   simp only;cases h4:aJ osk n with
   |none=>rfl
   |some x =>
    have h5:aH osk n=true:=by simp[aH,h4]
    rw[h1.same,←h2.same] at h5;simp[aH,h3] at h5
 |some x =>
  simp only;rw[h2.none (how n (by simp[aH,hw]))]
theorem eK.jI{os osk ow:List (Nat×ai)}(h1:fb os osk)(how:∀ m,aH ow m=true→m<1000000):eK [] osk (ow++osk):=by
 refine ⟨fun m x hx =>?_,fun m m' _ _ h=>h⟩;have hm:aH osk m=true:=by simp[aH,hx]
 have hg:=h1.lO m (by rw[←h1.same];exact hm);obtain ⟨k1,k2⟩:=h1.ok m x hx;refine ⟨?_,k1,k2⟩;rw[ai.mT (ρ:=bp []) (fun n=>rfl)];simp only[bp,Be];cases hw:aJ ow m with
 |none=>exact hx
 |some y=>have:=how m (by simp[aH,hw]);omega
theorem dF.jI{os osk os2 os0:List (Nat×ai)}{r:I}(h1:fb os osk)(h2:fb os os2)(hr:r.bu=true):dF false [] osk os0 r os2:=by
 refine ⟨fun m x hx=>⟨(h2.ok m x hx).1,(h2.ok m x hx).2,fun h=>by cases h⟩,fun m m' _ _ h=>h,fun m hm=>by rw[h2.same,←h1.same];exact hm,fun m h3 h4 =>?_,lX _ r hr,fun h=>by cases h⟩;rw[h2.same,←h1.same,h4] at h3;cases h3
theorem aY.Zd{P:Program}{Y:Value→List I→List (Nat×ai)→bY→Prop}{K:ab→Prop}{v:Value}{vs:List I}{dst:Option Nat}{rest:List av}{ts:List (Nat×I)}{os osk ow:List (Nat×ai)}{In Ix:List (Nat×ai)→Prop}
  (hY:Y v vs osk (fun r os2=>(r=.bool true∧In os2)∨(r=.bool false∧Ix os2))) (hk:fb os osk) (hi:∀ os',In os'→fb os os') (hx:∀ os',Ix os'→fb os os') (hcl:I.b9 vs=true) (how:∀ m,aH ow m=true→m<1000000)
  (h1:∀ os2,In os2→aY P Y false K (aq rest ((ay ts (ow++os2)).aN dst (.bool true)))) (h2:∀ os2,Ix os2→aY P Y false K (aq rest ((ay ts (ow++os2)).aN dst (.bool false)))) :
  aY P Y false K (.kN v vs dst rest (ay ts (ow++osk))):=by
 refine .tu osk vs _ rfl hY (eK.jI hk how) (xF vs hcl) ?_ ?_
 ·rintro r os' (⟨rfl,h⟩ | ⟨rfl,h⟩)
  ·exact dF.jI hk (hi _ h) rfl
  ·exact dF.jI hk (hx _ h) rfl
 ·rintro r os' (⟨rfl,h⟩ | ⟨rfl,h⟩)
  ·rw[xK hk (hi _ h) how];exact h1 os' h
  ·rw[xK hk (hx _ h) how];exact h2 os' h
theorem If(A:ab)(d:Option Nat)(args:List I)(rest:List av)(v:Value):pq A d args rest (.raw v)=.kN v args d rest A:=rfl
end Go.Abs
namespace Go.Proofs.YtoffnnjbplgnaaaGreatDoor
open Go Go.Abs
open Go.Abs.Enc (enc)
structure Item where
 bf:Int
 no:Int
 deriving DecidableEq,Inhabited
instance:Enc Item where
 enc x:=.agg [.int .i64 x.bf,.int .i64 x.no]
 sz:=2
 aK:=.eI [.one,.one]
 gq:=true
 done _:=rfl
 size _:=by simp[I.size,I.sizes]
 iE _:=by simp[I.aK,I.cL]
 agg _:=rfl
structure aj where
 bf:Int
 no:Int
 kind:Int
 ec:Int
 known:Int
 eX:Int
 fm:Int
 text:List UInt8
 deriving DecidableEq,Inhabited
def aj.bE(r:aj):Item:=⟨r.bf,r.no⟩
def aj.ga(r:aj):Item:=⟨r.eX,r.fm⟩
instance:Enc aj where
 enc r:=.agg [enc r.bE,.int .i64 r.kind,.int .i64 r.ec,.int .i64 r.known,enc r.ga,enc (ak.of r.text)]
 sz:=8
 aK:=.eI [.eI [.one,.one],.one,.one,.one,.eI [.one,.one],.one]
 gq:=true
 done e:=by simp only[I.done,I.iO,Enc.done,Bool.and_self]
 size e:=by simp only[I.size,I.sizes,lL];rfl
 iE e:=by simp only[I.aK,I.cL,eD];rfl
 agg _:=rfl
structure cI where
 bD:List UInt8
 cE:List UInt8
 deriving DecidableEq,Inhabited
instance:Enc cI where
 enc r:=.agg [enc (ak.of r.bD),enc (ak.of r.cE)]
 sz:=2
 aK:=.eI [.one,.one]
 gq:=true
 done e:=by simp only[I.done,I.iO,Enc.done,Bool.and_self]
 size e:=by simp only[I.size,I.sizes,lL];rfl
 iE e:=by simp only[I.aK,I.cL,eD];rfl
 agg _:=rfl
structure cP where
 cK:cI
 copy:cI
 deriving DecidableEq,Inhabited
instance:Enc cP where
 enc r:=.agg [enc r.cK,enc r.copy]
 sz:=4
 aK:=.eI [.eI [.one,.one],.eI [.one,.one]]
 gq:=true
 done e:=by simp only[I.done,I.iO,Enc.done,Bool.and_self]
 size e:=by simp only[I.size,I.sizes,lL];rfl
 iE e:=by simp only[I.aK,I.cL,eD];rfl
 agg _:=rfl
structure iX where
 l:List aj
 deriving DecidableEq,Inhabited
instance:Enc iX where
 enc b:=.agg [enc b.l]
 sz:=1
 aK:=.eI [.one]
 gq:=true
 done e:=by simp only[I.done,I.iO,Enc.done,Bool.and_self]
 size e:=by simp only[I.size,I.sizes,lL];rfl
 iE e:=by simp only[I.aK,I.cL,eD];rfl
 agg _:=rfl
theorem p8{fs:List I}{f off:Nat}{v:I}(h1:f<fs.length)(h:I.sizes (fs.take f)=off):fL fs f off v=some v:=by simp[fL,h,h1]
theorem LR:Enc.sz Item=2:=rfl
theorem LV:Enc.sz ak=1:=rfl
theorem LU:Enc.sz cI=2:=rfl
theorem BF(x:I)(fs:List I)(v:I):fL (x::fs) 0 0 v=some v:=p8 (by simp) (by simp[I.sizes])
theorem BC(a b:Item)(n1 n2 n3:Int)(s:ak)(v:I) :
  (fL [enc a,.int .i64 n1,.int .i64 n2,.int .i64 n3,enc b,enc s] 1 2 v=some v)∧(fL [enc a,.int .i64 n1,.int .i64 n2,.int .i64 n3,enc b,enc s] 2 3 v=some v)∧(fL [enc a,.int .i64 n1,.int .i64 n2,.int .i64 n3,enc b,enc s] 3 4 v=some v) ∧
  (fL [enc a,.int .i64 n1,.int .i64 n2,.int .i64 n3,enc b,enc s] 4 5 v=some v)∧(fL [enc a,.int .i64 n1,.int .i64 n2,.int .i64 n3,enc b,enc s] 5 7 v=some v):=by
 refine ⟨?_,?_,?_,?_,?_⟩ <;>refine p8 (t8 rfl) ?_ <;>simp[I.sizes,I.size,lL,LR]
theorem BB(n1 n2:Int)(v:I):fL [.int .i64 n1,.int .i64 n2] 1 1 v=some v:=p8 (t8 rfl) (by simp[I.sizes,I.size])
theorem BE(a b:ak)(v:I):fL [enc a,enc b] 1 1 v=some v:=p8 (t8 rfl) (by simp[I.sizes,lL,LV])
theorem BD(a b:cI)(v:I):fL [enc a,enc b] 1 2 v=some v:=p8 (t8 rfl) (by simp[I.sizes,lL,LU])
theorem EB :
  (∀ x:Item,(enc x).db=some [.int .i64 x.bf,.int .i64 x.no])∧(∀ r:aj,(enc r).db=some [enc r.bE,.int .i64 r.kind,.int .i64 r.ec,.int .i64 r.known,enc r.ga,enc (ak.of r.text)])∧(∀ r:cI,(enc r).db=some [enc (ak.of r.bD),enc (ak.of r.cE)]) ∧
  (∀ r:cP,(enc r).db=some [enc r.cK,enc r.copy])∧(∀ b:iX,(enc b).db=some [enc b.l])∧(type_of% @BF)∧(type_of% @BC)∧(type_of% @BB)∧(type_of% @BE)∧(type_of% @BD) ∧
  (∀ x:Item,bV (some 2) (enc x)=true)∧(∀ x:aj,bV (some 8) (enc x)=true)∧(∀ x:cI,bV (some 2) (enc x)=true)∧(∀ x:cP,bV (some 4) (enc x)=true)∧(∀ x:iX,bV (some 1) (enc x)=true)∧(∀ x:ak,bV none (enc x)=true)∧(∀ x:List aj,bV none (enc x)=true) ∧
  (∀ r:aj,r.bE.bf=r.bf)∧(∀ r:aj,r.bE.no=r.no)∧(∀ r:aj,r.ga.bf=r.eX)∧(∀ r:aj,r.ga.no=r.fm) ∧
  (∀ (fs:List I) x,(x::fs)[0]?=some x)∧(∀ (fs:List I) x n,(x::fs)[n+1]?=fs[n]?)∧(∀ (fs:List I) x,(x::fs)[1]?=fs[0]?)∧(∀ (fs:List I) x,(x::fs)[2]?=fs[1]?)∧(∀ (fs:List I) x,(x::fs)[3]?=fs[2]?)∧(∀ (fs:List I) x,(x::fs)[4]?=fs[3]?)∧(∀ (fs:List I) x,(x::fs)[5]?=fs[4]?) :=
 ⟨fun _=>rfl,fun _=>rfl,fun _=>rfl,fun _=>rfl,fun _=>rfl,BF,BC,BB,BE,BD,fun _=>by rw[ir];rfl,fun _=>by rw[ir];rfl,fun _=>by rw[ir];rfl,fun _=>by rw[ir];rfl,fun _=>by rw[ir];rfl,fun _=>rfl,fun _=>rfl,
  fun _=>rfl,fun _=>rfl,fun _=>rfl,fun _=>rfl,fun _ _=>rfl,fun _ _ _=>rfl,fun _ _=>rfl,fun _ _=>rfl,fun _ _=>rfl,fun _ _=>rfl,fun _ _=>rfl⟩
theorem uD(x y:Item):bT (.aR [.i .i64,.i .i64]) (enc x) (enc y)=some (decide (x=y)):=by
 show bT (.aR [.i .i64,.i .i64]) (.agg [.int .i64 x.bf,.int .i64 x.no]) (.agg [.int .i64 y.bf,.int .i64 y.no])=_
 have:x=y↔x.bf=y.bf∧x.no=y.no:=by cases x;cases y;simp
 simp[bT,gn,il,this];rfl
theorem zO(x y:ak):bT .s (enc x) (enc y)=some (decide (x=y)):=by
 show bT .s (.ah x.b) (.ah y.b)=_
 simp only[bT];exact congrArg some (wJ _ _)
theorem zM(x y:aj):bT (.aR [.aR [.i .i64,.i .i64],.i .i64,.i .i64,.i .i64,.aR [.i .i64,.i .i64],.s]) (enc x) (enc y)=some (decide (x=y)):=by
 show bT (.aR [.aR [.i .i64,.i .i64],.i .i64,.i .i64,.i .i64,.aR [.i .i64,.i .i64],.s]) (.agg [enc x.bE,.int .i64 x.kind,.int .i64 x.ec,.int .i64 x.known,enc x.ga,enc (ak.of x.text)]) (.agg [enc y.bE,.int .i64 y.kind,.int .i64 y.ec,.int .i64 y.known,enc y.ga,enc (ak.of y.text)])=_
 have:x=y↔x.bE=y.bE∧x.kind=y.kind∧x.ec=y.ec∧x.known=y.known∧x.ga=y.ga∧x.text=y.text:=by cases x;cases y;simp[aj.bE,aj.ga,and_assoc]
 rw[bT];simp only[gn,uD,zO,ak.sC];simp[bT,il,this];rfl
theorem uE(x y:cI):bT (.aR [.s,.s]) (enc x) (enc y)=some (decide (x=y)):=by
 show bT (.aR [.s,.s]) (.agg [enc (ak.of x.bD),enc (ak.of x.cE)]) (.agg [enc (ak.of y.bD),enc (ak.of y.cE)])=_
 have:x=y↔x.bD=y.bD∧x.cE=y.cE:=by cases x;cases y;simp
 rw[bT];simp only[gn,zO,ak.sC];simp[il,this]
theorem zN(x y:cP):bT (.aR [.aR [.s,.s],.aR [.s,.s]]) (enc x) (enc y)=some (decide (x=y)):=by
 show bT (.aR [.aR [.s,.s],.aR [.s,.s]]) (.agg [enc x.cK,enc x.copy]) (.agg [enc y.cK,enc y.copy])=_
 have:x=y↔x.cK=y.cK∧x.copy=y.copy:=by cases x;cases y;simp
 rw[bT];simp only[gn,uE];simp[il,this]
theorem BZ:(∀ r:aj,(enc r).at [0,0]=some (.int .i64 r.bf))∧(∀ r:aj,(enc r).at [0,1]=some (.int .i64 r.no))∧(∀ r:aj,(enc r).at [4,0]=some (.int .i64 r.eX))∧(∀ r:aj,(enc r).at [4,1]=some (.int .i64 r.fm))∧(∀ zs,fp zs []=some zs) ∧
  (∀ (a b:Nat) (l:List Nat),[a]++(b::l)=a::b::l)∧(∀ (a b c:Nat) (l:List Nat),[a,b]++(c::l)=a::b::c::l) :=
 ⟨fun _=>rfl,fun _=>rfl,fun _=>rfl,fun _=>rfl,fun _=>rfl,fun _ _ _=>rfl,fun _ _ _ _=>rfl⟩
theorem az:(type_of% @BZ)∧(type_of% @EB)∧(∀ {α:Type} [Enc α] (aG:Bool) (A:ab) (x:α),ba aG A (enc x)=some (enc x))∧(∀ {α:Type} [Enc α] (x:α),(enc x).cn=true)∧(type_of% @uD)∧(type_of% @zM)∧(type_of% @uE)∧(type_of% @zN)∧(type_of% @zl)∧(type_of% @iW)∧(type_of% @aZ) :=
 ⟨BZ,EB,@jg,@fh,uD,zM,uE,zN,zl,iW,aZ⟩
theorem eP{i n:Nat}(h:i<n):decide ((i:Int)<(n:Int))=true:=by simp;omega
theorem fu{i n:Nat}(h:¬ i<n):decide ((i:Int)<(n:Int))=false:=by simp;omega
theorem eG{i:Nat}(h:i<9223372036854775807):IntKind.i64.wrap ((i:Int)+1)=((i+1:Nat):Int):=by rw[dC _ (by omega) (by omega)];rfl
def dS(lo hi n:Int):Bool:=decide (lo≤n)&&decide (n≤hi)
theorem mg(n lo hi:Int):aM Tryz.prog 128 [enc n,enc lo,enc hi] (enc (dS lo hi n)):=by
 refine aM.bL Tryz.func128 G4 Ip JJ (t8 rfl) (fun hwf W0 bC E1 =>?_);simp only[xZ,Cg,bB,Z5,Nat.reduceAdd];have R:=az
 repeat' ((first |(with_reducible refine .guard (fun hb =>?_) (fun hb =>?_) <;>try simp only[hb])|refine U.aE (by decide +kernel) rfl fun K hK =>?_|(refine .aA [0,1,2,6] hK ?_;clear hK K)|(with_reducible refine .done (hK _ ?_);clear hK K)|refine U.of rfl ?_|(with_reducible refine au.aD (fun h =>?_) (fun h =>?_) <;>try simp only[h])) <;>try simp only[aF,R,simprocAttr])
 all_goals clear R
 all_goals (simp at *;simp_all[dS])
 all_goals omega
theorem lD(n lo hi:Int):aM Tryz.prog 82 [enc n,enc lo,enc hi] (enc (dS lo hi n)):=by
 refine aM.bL Tryz.func82 HW Je Kx (t8 rfl) (fun hwf W0 bC E1 =>?_);simp only[yS,C2,bB,Z5,Nat.reduceAdd];have R:=az
 repeat' ((first |(with_reducible refine .guard (fun hb =>?_) (fun hb =>?_) <;>try simp only[hb])|refine U.aE (by decide +kernel) rfl fun K hK =>?_|(refine .aA [0,1,2,6] hK ?_;clear hK K)|(with_reducible refine .done (hK _ ?_);clear hK K)|refine U.of rfl ?_|(with_reducible refine au.aD (fun h =>?_) (fun h =>?_) <;>try simp only[h])) <;>try simp only[aF,R,simprocAttr])
 all_goals clear R
 all_goals (simp at *;simp_all[dS])
 all_goals omega
theorem wY(n:Int):aM Tryz.prog 105 [enc n] (enc (dS 0 100000 n)):=by
 refine aM.bL Tryz.func105 GZ Il JF (t8 rfl) (fun hwf W0 bC E1 =>?_);simp only[xW,Cc,bB];have R:=az
 repeat' ((first |refine U.aE (by decide +kernel) rfl fun K hK =>?_|refine .flat _ (mg n 0 100000) rfl ?_|(refine .aA [0,2] hK ?_;clear hK K)|(with_reducible refine .done (hK _ ?_);clear hK K)|refine U.of rfl ?_|(with_reducible refine au.aD (fun h =>?_) (fun h =>?_) <;>try simp only[h])) <;>try simp only[aF,R,simprocAttr])
 all_goals clear R
theorem xl(n:Int):aM Tryz.prog 79 [enc n] (enc (dS 0 1000002 n)):=by
 refine aM.bL Tryz.func79 HT Jb Kt (t8 rfl) (fun hwf W0 bC E1 =>?_);simp only[yQ,CZ,bB];have R:=az
 repeat' ((first |refine U.aE (by decide +kernel) rfl fun K hK =>?_|refine .flat _ (mg n 0 1000002) rfl ?_|(refine .aA [0,2] hK ?_;clear hK K)|(with_reducible refine .done (hK _ ?_);clear hK K)|refine U.of rfl ?_|(with_reducible refine au.aD (fun h =>?_) (fun h =>?_) <;>try simp only[h])) <;>try simp only[aF,R,simprocAttr])
 all_goals clear R
def iz(x:Item):Bool:=dS 0 5 x.bf&&dS 0 9999 x.no
theorem w0(x:Item):aM Tryz.prog 129 [enc x] (enc (iz x)):=by
 refine aM.bL Tryz.func129 G5 Iq JK (t8 rfl) (fun hwf W0 bC E1 =>?_);simp only[x8,Ch,bB];cases q:dS 0 5 x.bf
 ·simp only[iz,q,Bool.false_and];have R:=y6 @q az
  repeat' ((first |(with_reducible refine .guard (fun hb =>?_) (fun hb =>?_) <;>try simp only[hb])|refine U.aE (by decide +kernel) rfl fun K hK =>?_|refine .flat _ (mg x.bf 0 5) rfl ?_|refine .flat _ (mg x.no 0 9999) rfl ?_|(refine .aA [0,1,2] hK ?_;clear hK K)|(with_reducible refine .done (hK _ ?_);clear hK K)|refine U.of rfl ?_|(with_reducible refine au.aD (fun h =>?_) (fun h =>?_) <;>try simp only[h])) <;>try simp only[aF,R,simprocAttr])
  all_goals clear R
 ·simp only[iz,q,Bool.true_and];have R:=y6 @q az
  repeat' ((first |(with_reducible refine .guard (fun hb =>?_) (fun hb =>?_) <;>try simp only[hb])|refine U.aE (by decide +kernel) rfl fun K hK =>?_|refine .flat _ (mg x.bf 0 5) rfl ?_|refine .flat _ (mg x.no 0 9999) rfl ?_|(refine .aA [0,1,2] hK ?_;clear hK K)|(with_reducible refine .done (hK _ ?_);clear hK K)|refine U.of rfl ?_|(with_reducible refine au.aD (fun h =>?_) (fun h =>?_) <;>try simp only[h])) <;>try simp only[aF,R,simprocAttr])
  all_goals clear R
theorem xn(x:Item):aM Tryz.prog 85 [enc x] (enc (iz x)):=by
 refine aM.bL Tryz.func85 HZ Jh KA (t8 rfl) (fun hwf W0 bC E1 =>?_);simp only[c85,C5,bB];cases q:dS 0 5 x.bf
 ·simp only[iz,q,Bool.false_and];have R:=y6 @q az
  repeat' ((first |(with_reducible refine .guard (fun hb =>?_) (fun hb =>?_) <;>try simp only[hb])|refine U.aE (by decide +kernel) rfl fun K hK =>?_|refine .flat _ (lD x.bf 0 5) rfl ?_|refine .flat _ (lD x.no 0 9999) rfl ?_|(refine .aA [0,1,2] hK ?_;clear hK K)|(with_reducible refine .done (hK _ ?_);clear hK K)|refine U.of rfl ?_|(with_reducible refine au.aD (fun h =>?_) (fun h =>?_) <;>try simp only[h])) <;>try simp only[aF,R,simprocAttr])
  all_goals clear R
 ·simp only[iz,q,Bool.true_and];have R:=y6 @q az
  repeat' ((first |(with_reducible refine .guard (fun hb =>?_) (fun hb =>?_) <;>try simp only[hb])|refine U.aE (by decide +kernel) rfl fun K hK =>?_|refine .flat _ (lD x.bf 0 5) rfl ?_|refine .flat _ (lD x.no 0 9999) rfl ?_|(refine .aA [0,1,2] hK ?_;clear hK K)|(with_reducible refine .done (hK _ ?_);clear hK K)|refine U.of rfl ?_|(with_reducible refine au.aD (fun h =>?_) (fun h =>?_) <;>try simp only[h])) <;>try simp only[aF,R,simprocAttr])
  all_goals clear R
end Go.Proofs.YtoffnnjbplgnaaaGreatDoor
namespace Go.Proofs.YtoffnnjbplgnaaaGreatDoor
open Go Go.Abs Go.Shelf
open Go.Abs.Enc (enc)
def VP:Go.Shelf.Ren:=⟨fun | 104=>125 | 211=>153 | 207=>169 | n=>n,fun | 9=>9 | 4=>4 | 24=>42 | 3=>3 | n=>n,fun | n=>n⟩
theorem VO:Go.Proofs.Lays.n104 Tryz.prog VP := {
 mixed:=by kernel_rfl
 f104:=Tryz.func125.trans (congrArg some (by kernel_rfl))
 f207:=Tryz.func169.trans (congrArg some (by kernel_rfl))
 f211:=Tryz.func153.trans (congrArg some (by kernel_rfl))
 t3:=Tryz.underlying3
 a3:=Tryz.isAgg3
 z3:=Tryz.sizeOf3
 v3:=Tryz.zeroValue3
 t4:=Tryz.underlying4
 a4:=Tryz.isAgg4
 z4:=Tryz.sizeOf4
 v4:=Tryz.zeroValue4
 t9:=Tryz.underlying9
 a9:=Tryz.isAgg9
 z9:=Tryz.sizeOf9
 v9:=Tryz.zeroValue9
 t24:=Tryz.underlying42
 a24:=Tryz.isAgg42
 z24:=Tryz.sizeOf42
 v24:=Tryz.zeroValue42 }
def A5:Go.Shelf.Ren:=⟨fun | 137=>123 | 217=>152 | 266=>168 | n=>n,fun | 9=>9 | 5=>5 | 3=>3 | n=>n,fun | n=>n⟩
theorem A4:Go.Proofs.Lays.n137 Tryz.prog A5 := {
 mixed:=by kernel_rfl
 f137:=Tryz.func123.trans (congrArg some (by kernel_rfl))
 f217:=Tryz.func152.trans (congrArg some (by kernel_rfl))
 f266:=Tryz.func168.trans (congrArg some (by kernel_rfl))
 t3:=Tryz.underlying3
 a3:=Tryz.isAgg3
 z3:=Tryz.sizeOf3
 v3:=Tryz.zeroValue3
 t5:=Tryz.underlying5
 a5:=Tryz.isAgg5
 z5:=Tryz.sizeOf5
 v5:=Tryz.zeroValue5
 t9:=Tryz.underlying9
 a9:=Tryz.isAgg9
 z9:=Tryz.sizeOf9
 v9:=Tryz.zeroValue9 }
def VK:Go.Shelf.Ren:=⟨fun | 172=>155 | 244=>171 | 245=>172 | 247=>189 | 279=>190 | 280=>191 | 281=>192 | 282=>193 | 287=>207 | 316=>127 | 171=>132 | 205=>208 | 321=>215 | 322=>216 | 243=>158 | 246=>174 | 283=>195 | 284=>196 | 285=>197 | 286=>198 | 129=>185 | 317=>209 | 318=>210 | 319=>211 | 320=>212 | 337=>217 | 338=>218 | n=>n,fun | 9=>9 | 3=>3 | 75=>199 | 76=>200 | 4=>4 | 5=>5 | 167=>231 | 37=>45 | 0=>0 | 85=>232 | 2=>2 | 168=>234 | 53=>227 | 175=>250 | 46=>208 | 210=>253 | 127=>202 | 145=>266 | 143=>264 | 21=>21 | 171=>239 | 173=>241 | 212=>256 | 51=>225 | 20=>20 | 213=>257 | 232=>267 | 233=>268 | 80=>206 | n=>n,fun | 15=>1 | 16=>2 | 17=>3 | 18=>4 | 19=>5 | n=>n⟩
theorem VJ:Go.Proofs.LaysC.n172 Tryz.prog VK := {
 mixed:=by kernel_rfl
 f129:=Tryz.func185.trans (congrArg some (by kernel_rfl))
 f171:=Tryz.func132.trans (congrArg some (by kernel_rfl))
 f172:=Tryz.func155.trans (congrArg some (by kernel_rfl))
 f205:=Tryz.func208.trans (congrArg some (by kernel_rfl))
 f243:=Tryz.func158.trans (congrArg some (by kernel_rfl))
 f244:=Tryz.func171.trans (congrArg some (by kernel_rfl))
 f245:=Tryz.func172.trans (congrArg some (by kernel_rfl))
 f246:=Tryz.func174.trans (congrArg some (by kernel_rfl))
 f247:=Tryz.func189.trans (congrArg some (by kernel_rfl))
 f279:=Tryz.func190.trans (congrArg some (by kernel_rfl))
 f280:=Tryz.func191.trans (congrArg some (by kernel_rfl))
 f281:=Tryz.func192.trans (congrArg some (by kernel_rfl))
 f282:=Tryz.func193.trans (congrArg some (by kernel_rfl))
 f283:=Tryz.func195.trans (congrArg some (by kernel_rfl))
 f284:=Tryz.func196.trans (congrArg some (by kernel_rfl))
 f285:=Tryz.func197.trans (congrArg some (by kernel_rfl))
 f286:=Tryz.func198.trans (congrArg some (by kernel_rfl))
 f287:=Tryz.func207.trans (congrArg some (by kernel_rfl))
 f316:=Tryz.func127.trans (congrArg some (by kernel_rfl))
 f317:=Tryz.func209.trans (congrArg some (by kernel_rfl))
 f318:=Tryz.func210.trans (congrArg some (by kernel_rfl))
 f319:=Tryz.func211.trans (congrArg some (by kernel_rfl))
 f320:=Tryz.func212.trans (congrArg some (by kernel_rfl))
 f321:=Tryz.func215.trans (congrArg some (by kernel_rfl))
 f322:=Tryz.func216.trans (congrArg some (by kernel_rfl))
 f337:=Tryz.func217.trans (congrArg some (by kernel_rfl))
 f338:=Tryz.func218.trans (congrArg some (by kernel_rfl))
 t0:=Tryz.underlying0
 a0:=Tryz.isAgg0
 z0:=Tryz.sizeOf0
 v0:=Tryz.zeroValue0
 t2:=Tryz.underlying2
 a2:=Tryz.isAgg2
 z2:=Tryz.sizeOf2
 v2:=Tryz.zeroValue2
 t3:=Tryz.underlying3
 a3:=Tryz.isAgg3
 z3:=Tryz.sizeOf3
 v3:=Tryz.zeroValue3
 t4:=Tryz.underlying4
 a4:=Tryz.isAgg4
 z4:=Tryz.sizeOf4
 v4:=Tryz.zeroValue4
 t5:=Tryz.underlying5
 a5:=Tryz.isAgg5
 z5:=Tryz.sizeOf5
 v5:=Tryz.zeroValue5
 t9:=Tryz.underlying9
 a9:=Tryz.isAgg9
 z9:=Tryz.sizeOf9
 v9:=Tryz.zeroValue9
 t20:=Tryz.underlying20
 a20:=Tryz.isAgg20
 z20:=Tryz.sizeOf20
 v20:=Tryz.zeroValue20
 t21:=Tryz.underlying21
 a21:=Tryz.isAgg21
 z21:=Tryz.sizeOf21
 v21:=Tryz.zeroValue21
 t37:=Tryz.underlying45
 a37:=Tryz.isAgg45
 z37:=Tryz.sizeOf45
 v37:=Tryz.zeroValue45
 t46:=Tryz.underlying208
 a46:=Tryz.isAgg208
 z46:=Tryz.sizeOf208
 v46:=Tryz.zeroValue208
 t51:=Tryz.underlying225
 a51:=Tryz.isAgg225
 z51:=Tryz.sizeOf225
 v51:=Tryz.zeroValue225
 t53:=Tryz.underlying227
 a53:=Tryz.isAgg227
 z53:=Tryz.sizeOf227
 v53:=Tryz.zeroValue227
 t75:=Tryz.underlying199
 a75:=Tryz.isAgg199
 z75:=Tryz.sizeOf199
 v75:=Tryz.zeroValue199
 t76:=Tryz.underlying200
 a76:=Tryz.isAgg200
 z76:=Tryz.sizeOf200
 v76:=Tryz.zeroValue200
 t85:=Tryz.underlying232
 a85:=Tryz.isAgg232
 z85:=Tryz.sizeOf232
 v85:=Tryz.zeroValue232
 t127:=Tryz.underlying202
 a127:=Tryz.isAgg202
 z127:=Tryz.sizeOf202
 v127:=Tryz.zeroValue202
 t143:=Tryz.underlying264
 a143:=Tryz.isAgg264
 z143:=Tryz.sizeOf264
 v143:=Tryz.zeroValue264
 t145:=Tryz.underlying266
 a145:=Tryz.isAgg266
 z145:=Tryz.sizeOf266
 v145:=Tryz.zeroValue266
 t167:=Tryz.underlying231
 a167:=Tryz.isAgg231
 z167:=Tryz.sizeOf231
 v167:=Tryz.zeroValue231
 t168:=Tryz.underlying234
 a168:=Tryz.isAgg234
 z168:=Tryz.sizeOf234
 v168:=Tryz.zeroValue234
 t171:=Tryz.underlying239
 a171:=Tryz.isAgg239
 z171:=Tryz.sizeOf239
 v171:=Tryz.zeroValue239
 t173:=Tryz.underlying241
 a173:=Tryz.isAgg241
 z173:=Tryz.sizeOf241
 v173:=Tryz.zeroValue241
 t175:=Tryz.underlying250
 a175:=Tryz.isAgg250
 z175:=Tryz.sizeOf250
 v175:=Tryz.zeroValue250
 t210:=Tryz.underlying253
 a210:=Tryz.isAgg253
 z210:=Tryz.sizeOf253
 v210:=Tryz.zeroValue253
 t212:=Tryz.underlying256
 a212:=Tryz.isAgg256
 z212:=Tryz.sizeOf256
 v212:=Tryz.zeroValue256
 t213:=Tryz.underlying257
 a213:=Tryz.isAgg257
 z213:=Tryz.sizeOf257
 t232:=Tryz.underlying267
 a232:=Tryz.isAgg267
 z232:=Tryz.sizeOf267
 v232:=Tryz.zeroValue267
 t233:=Tryz.underlying268
 a233:=Tryz.isAgg268
 z233:=Tryz.sizeOf268
 v233:=Tryz.zeroValue268
 g15:=by kernel_rfl
 g16:=by kernel_rfl
 g17:=by kernel_rfl
 g18:=by kernel_rfl
 g19:=by kernel_rfl
 t80:=Tryz.underlying206
 a80:=Tryz.isAgg206
 z80:=Tryz.sizeOf206
 v80:=Tryz.zeroValue206
 i0:=by kernel_rfl
 i2:=by kernel_rfl
 i3:=by kernel_rfl
 i4:=by kernel_rfl
 i5:=by kernel_rfl
 i9:=by kernel_rfl
 i20:=by kernel_rfl
 i21:=by kernel_rfl
 i37:=by kernel_rfl
 i46:=by kernel_rfl
 i51:=by kernel_rfl
 i53:=by kernel_rfl
 i75:=by kernel_rfl
 i76:=by kernel_rfl
 i80:=by kernel_rfl
 i85:=by kernel_rfl
 i127:=by kernel_rfl
 i143:=by kernel_rfl
 i145:=by kernel_rfl
 i167:=by kernel_rfl
 i168:=by kernel_rfl
 i171:=by kernel_rfl
 i173:=by kernel_rfl
 i175:=by kernel_rfl
 i210:=by kernel_rfl
 i212:=by kernel_rfl
 i232:=by kernel_rfl
 i233:=by kernel_rfl
 m15:=by kernel_rfl
 m16:=by kernel_rfl
 m17:=by kernel_rfl
 m18:=by kernel_rfl
 m19:=by kernel_rfl
 c0:=by kernel_rfl
 c2:=by kernel_rfl
 c3:=by kernel_rfl
 c4:=by kernel_rfl
 c5:=by kernel_rfl
 c9:=by kernel_rfl
 c20:=by kernel_rfl
 c21:=by kernel_rfl
 c37:=by kernel_rfl
 c46:=by kernel_rfl
 c51:=by kernel_rfl
 c53:=by kernel_rfl
 c75:=by kernel_rfl
 c76:=by kernel_rfl
 c80:=by kernel_rfl
 c85:=by kernel_rfl
 c127:=by kernel_rfl
 c143:=by kernel_rfl
 c145:=by kernel_rfl
 c167:=by kernel_rfl
 c168:=by kernel_rfl
 c171:=by kernel_rfl
 c173:=by kernel_rfl
 c175:=by kernel_rfl
 c210:=by kernel_rfl
 c212:=by kernel_rfl
 c213:=by kernel_rfl
 c232:=by kernel_rfl
 c233:=by kernel_rfl }
def VL:Go.Shelf.Ren:=⟨fun | 171=>132 | 243=>158 | 246=>174 | 283=>195 | 284=>196 | 285=>197 | 286=>198 | 129=>185 | 317=>209 | 318=>210 | 319=>211 | 320=>212 | 337=>217 | 338=>218 | n=>n,fun | 3=>3 | 9=>9 | 2=>2 | 4=>4 | 171=>239 | 0=>0 | 53=>227 | 37=>45 | 5=>5 | 173=>241 | 212=>256 | 51=>225 | 20=>20 | 213=>257 | 46=>208 | 232=>267 | 233=>268 | n=>n,fun | 17=>3 | 18=>4 | 19=>5 | n=>n⟩
theorem A2:Go.Proofs.LaysM.n171 Tryz.prog VL := {
 mixed:=by kernel_rfl
 f129:=Tryz.func185.trans (congrArg some (by kernel_rfl))
 f171:=Tryz.func132.trans (congrArg some (by kernel_rfl))
 f243:=Tryz.func158.trans (congrArg some (by kernel_rfl))
 f246:=Tryz.func174.trans (congrArg some (by kernel_rfl))
 f283:=Tryz.func195.trans (congrArg some (by kernel_rfl))
 f284:=Tryz.func196.trans (congrArg some (by kernel_rfl))
 f285:=Tryz.func197.trans (congrArg some (by kernel_rfl))
 f286:=Tryz.func198.trans (congrArg some (by kernel_rfl))
 f317:=Tryz.func209.trans (congrArg some (by kernel_rfl))
 f318:=Tryz.func210.trans (congrArg some (by kernel_rfl))
 f319:=Tryz.func211.trans (congrArg some (by kernel_rfl))
 f320:=Tryz.func212.trans (congrArg some (by kernel_rfl))
 f337:=Tryz.func217.trans (congrArg some (by kernel_rfl))
 f338:=Tryz.func218.trans (congrArg some (by kernel_rfl))
 t0:=Tryz.underlying0
 a0:=Tryz.isAgg0
 z0:=Tryz.sizeOf0
 v0:=Tryz.zeroValue0
 t2:=Tryz.underlying2
 a2:=Tryz.isAgg2
 z2:=Tryz.sizeOf2
 v2:=Tryz.zeroValue2
 t3:=Tryz.underlying3
 a3:=Tryz.isAgg3
 z3:=Tryz.sizeOf3
 v3:=Tryz.zeroValue3
 t4:=Tryz.underlying4
 a4:=Tryz.isAgg4
 z4:=Tryz.sizeOf4
 v4:=Tryz.zeroValue4
 t5:=Tryz.underlying5
 a5:=Tryz.isAgg5
 z5:=Tryz.sizeOf5
 v5:=Tryz.zeroValue5
 t9:=Tryz.underlying9
 a9:=Tryz.isAgg9
 z9:=Tryz.sizeOf9
 v9:=Tryz.zeroValue9
 t20:=Tryz.underlying20
 a20:=Tryz.isAgg20
 z20:=Tryz.sizeOf20
 v20:=Tryz.zeroValue20
 t37:=Tryz.underlying45
 a37:=Tryz.isAgg45
 z37:=Tryz.sizeOf45
 v37:=Tryz.zeroValue45
 t46:=Tryz.underlying208
 a46:=Tryz.isAgg208
 z46:=Tryz.sizeOf208
 v46:=Tryz.zeroValue208
 t51:=Tryz.underlying225
 a51:=Tryz.isAgg225
 z51:=Tryz.sizeOf225
 v51:=Tryz.zeroValue225
 t53:=Tryz.underlying227
 a53:=Tryz.isAgg227
 z53:=Tryz.sizeOf227
 v53:=Tryz.zeroValue227
 t171:=Tryz.underlying239
 a171:=Tryz.isAgg239
 z171:=Tryz.sizeOf239
 v171:=Tryz.zeroValue239
 t173:=Tryz.underlying241
 a173:=Tryz.isAgg241
 z173:=Tryz.sizeOf241
 v173:=Tryz.zeroValue241
 t212:=Tryz.underlying256
 a212:=Tryz.isAgg256
 z212:=Tryz.sizeOf256
 v212:=Tryz.zeroValue256
 t213:=Tryz.underlying257
 a213:=Tryz.isAgg257
 z213:=Tryz.sizeOf257
 t232:=Tryz.underlying267
 a232:=Tryz.isAgg267
 z232:=Tryz.sizeOf267
 v232:=Tryz.zeroValue267
 t233:=Tryz.underlying268
 a233:=Tryz.isAgg268
 z233:=Tryz.sizeOf268
 v233:=Tryz.zeroValue268
 g17:=by kernel_rfl
 g18:=by kernel_rfl
 g19:=by kernel_rfl
 i0:=by kernel_rfl
 i2:=by kernel_rfl
 i3:=by kernel_rfl
 i4:=by kernel_rfl
 i5:=by kernel_rfl
 i9:=by kernel_rfl
 i20:=by kernel_rfl
 i37:=by kernel_rfl
 i46:=by kernel_rfl
 i51:=by kernel_rfl
 i53:=by kernel_rfl
 i171:=by kernel_rfl
 i173:=by kernel_rfl
 i212:=by kernel_rfl
 i232:=by kernel_rfl
 i233:=by kernel_rfl
 m17:=by kernel_rfl
 m18:=by kernel_rfl
 m19:=by kernel_rfl }
def VN:Go.Shelf.Ren:=⟨fun | 316=>127 | n=>n,fun | 9=>9 | 3=>3 | 4=>4 | 37=>45 | 0=>0 | 127=>202 | 5=>5 | n=>n,fun | n=>n⟩
theorem VM:Go.Proofs.LaysM.n316 Tryz.prog VN := {
 mixed:=by kernel_rfl
 f316:=Tryz.func127.trans (congrArg some (by kernel_rfl))
 t0:=Tryz.underlying0
 a0:=Tryz.isAgg0
 z0:=Tryz.sizeOf0
 v0:=Tryz.zeroValue0
 t3:=Tryz.underlying3
 a3:=Tryz.isAgg3
 z3:=Tryz.sizeOf3
 v3:=Tryz.zeroValue3
 t4:=Tryz.underlying4
 a4:=Tryz.isAgg4
 z4:=Tryz.sizeOf4
 v4:=Tryz.zeroValue4
 t9:=Tryz.underlying9
 a9:=Tryz.isAgg9
 z9:=Tryz.sizeOf9
 v9:=Tryz.zeroValue9
 t37:=Tryz.underlying45
 a37:=Tryz.isAgg45
 z37:=Tryz.sizeOf45
 v37:=Tryz.zeroValue45
 t127:=Tryz.underlying202
 a127:=Tryz.isAgg202
 z127:=Tryz.sizeOf202
 v127:=Tryz.zeroValue202
 t5:=Tryz.underlying5
 a5:=Tryz.isAgg5
 z5:=Tryz.sizeOf5
 v5:=Tryz.zeroValue5
 i0:=by kernel_rfl
 i3:=by kernel_rfl
 i4:=by kernel_rfl
 i5:=by kernel_rfl
 i9:=by kernel_rfl
 i37:=by kernel_rfl
 i127:=by kernel_rfl }
theorem EW(s p:ak):aM Tryz.prog 125 [enc s,enc p] (.tuple [enc (ak.of (Lib.trimSuffix s.l p.l)),enc (Lib.hasSuffix s.l p.l)]):=KL VO G2 s p
theorem EV(s:ak)(c:UInt8):aM Tryz.prog 123 [enc s,.int .u8 c.toNat] (enc (Lib.indexByte s.l c)):=KM A4 G1 s c
theorem tC(s:ak)(hs:s.l.length≤281474976710656):aM Tryz.prog 155 [enc s] (gC 234 s.l):=KJ VJ Hl (by kernel_rfl) (by kernel_rfl) rfl s hs
theorem E5(n:Int):aM Tryz.prog 132 [enc n] (enc (vf n)):=KN A2 G8 (g:=3) (by kernel_rfl) n
theorem EY(s:ak)(hs:s.l.length≤281474976710656):aM Tryz.prog 127 [enc s] (enc s):=KK VM G3 s hs
theorem VI:Go.Proofs.Lays.n217 Tryz.prog A5 := { A4 with }
theorem Vo(l:List UInt8)(c:UInt8):-1≤Lib.indexByte l c∧Lib.indexByte l c≤l.length:=by
 refine ⟨Lib.indexByte_ge l c,?_⟩
 induction l with
 |nil=>simp[Lib.indexByte]
 |cons b l ih =>
  unfold Lib.indexByte
  (repeat' split) <;>simp only[zz5] <;>omega
theorem Fe(s:ak)(c:UInt8):aM Tryz.prog 152 [enc s,.int .u8 c.toNat] (enc (Lib.indexByte s.l c)):=by
 refine ⟨Hj,fun w D vs hl hD hv =>?_⟩;obtain ⟨rest,rfl,hsz,hv2⟩:=wI hv;simp only[al] at hv2;obtain ⟨v,rest2,cs,rfl,h1,h2,rfl⟩:=hv2;obtain ⟨rfl,_⟩:=dn (fj h1 h2);have key:=Any.stringslite_IndexByte VI s.b (c.toNat:Int) w;have hcc:((c.toNat:Int)).toNat.toUInt8=c:=by simp
 rw[hcc] at key;refine Calls.mono key ?_;rintro e w' ⟨rfl,rfl⟩;refine ⟨_,D,rfl,⟨[_],by simp[aX,I.isAgg,enc];rfl,?_⟩,Go.RowKit.Below.refl _ w',hD,fun _ _ h _=>h⟩
 show ae _ _ _ (.int .i64 (Lib.indexByte s.l c)) _
 simp only[ae];refine ⟨rfl,?_⟩;have g:=Vo s.l c;rw[ak.size] at hsz;have hmin:IntKind.i64.min=-9223372036854775808:=by decide
 have hmax:IntKind.i64.max=9223372036854775807:=by decide
 unfold maxLen at hsz;rw[hmin,hmax];omega
theorem Fj(s:ak)(c:UInt8):aM Tryz.prog 188 [enc s,enc (ak.of [c])] (enc (Lib.indexByte s.l c)):=by
 refine aM.bL Tryz.func188 Ht IL J4 (t8 rfl) (fun hwf W0 bC E1 =>?_);simp only[yw,CB,bB,Z5];have hsi:=DT (ak.of [c]) (i:=0) (by rw[ak.c8];exact Nat.zero_lt_one);have hl1:lQ (enc (ak.of [c]))=some (.int .i64 1):=by rw[qB];rfl
 have hsi':dX .dp [enc (ak.of [c]),.int .i64 0]=some (.int .u8 (c.toNat:Int)):=hsi;cases q:decide (ak.of [c]=s)
 ·have R:=y6 @hsi' (y6 @hl1 (y6 @q (y6 @bd az)))
  repeat' ((first |(with_reducible refine .guard (fun hb =>?_) (fun hb =>?_) <;>try simp only[hb])|refine U.aE (by decide +kernel) rfl fun K hK =>?_|refine .flat _ (Fe s c) rfl ?_|(refine .aA [0,1,4,5,6,7,8,9,10,11,12,13,16,24,31,36,59,64,73,93,107,114,132,139] hK ?_;clear hK K)|(with_reducible refine .done (hK _ ?_);clear hK K)|refine U.of rfl ?_|(with_reducible refine au.aD (fun h =>?_) (fun h =>?_) <;>try simp only[h])) <;>try simp only[aF,R,simprocAttr])
  all_goals clear R
 ·have e:=of_decide_eq_true q;subst e;have R:=y6 @hl1 (y6 @bd az)
  repeat' ((first |(with_reducible refine .guard (fun hb =>?_) (fun hb =>?_) <;>try simp only[hb])|refine U.aE (by decide +kernel) rfl fun K hK =>?_|(refine .aA [0,1,4,5,6,7,8,9,10,11,12,13,16,24,31,36,59,64,73,93,107,114,132,139] hK ?_;clear hK K)|(with_reducible refine .done (hK _ ?_);clear hK K)|refine U.of rfl ?_|(with_reducible refine au.aD (fun h =>?_) (fun h =>?_) <;>try simp only[h])) <;>try simp only[aF,R,eq_self,decide_true,simprocAttr])
  all_goals clear R
  show I.int .i64 0=I.int .i64 (Lib.indexByte [c] c)
  simp[Lib.indexByte]
def cG(c:UInt8):List UInt8→Option (List UInt8×List UInt8)
 | []=>none
 |b::l=>if b=c then some ([],l) else (cG c l).map fun p=>(b::p.1,p.2)
def jE(c:UInt8)(l:List UInt8):List UInt8×List UInt8×Bool:=match cG c l with
 |some p=>(p.1,p.2,true)
 |none=>(l,[],false)
theorem nP(c:UInt8):∀ l:List UInt8,(cG c l=none∧Lib.indexByte l c=-1)∨∃ i:Nat,i<l.length∧Lib.indexByte l c=i∧cG c l=some (l.take i,l.drop (i+1))
 | []=>.inl ⟨rfl,rfl⟩
 |b::l=>by
  by_cases h:b=c
  ·refine .inr ⟨0,by simp,by simp[Lib.indexByte,h],by simp[cG,h]⟩
  ·rcases nP c l with ⟨h1,h2⟩ | ⟨i,h0,h1,h2⟩
   ·refine .inl ⟨by simp[cG,h,h1],by simp[Lib.indexByte,h,h2]⟩
   ·refine .inr ⟨i+1,by simpa using h0,?_,by simp[cG,h,h2]⟩;simp only[Lib.indexByte,h1];simp[h]
    try omega
theorem Fi(s:ak)(c:UInt8):aM Tryz.prog 170 [enc s,enc (ak.of [c])] (.tuple [enc (ak.of (jE c s.l).1),enc (ak.of (jE c s.l).2.1),enc (jE c s.l).2.2]):=by
 refine aM.wf ze fun hwf0 =>?_;have hlen:s.l.length≤maxLen:=by
  have:=hwf0.1;rw[←ak.size];exact this
 simp only[maxLen] at hlen;refine aM.bL Tryz.func170 ze II J1 (t8 rfl) (fun hwf W0 bC E1 =>?_);simp only[yr,Cy,bB,Z5];clear hwf;have hF:=Fj s c;have hl1:lQ (enc (ak.of [c]))=some (.int .i64 1):=by rw[qB];rfl
 rcases nP c s.l with ⟨h1,h2⟩ | ⟨i,h0,h1,h2⟩
 ·rw[h2] at hF;simp only[jE,h1];have R:=y6 @hl1 (y6 @bd az)
  repeat' ((first |refine U.aE (by decide +kernel) rfl fun K hK =>?_|refine .flat _ (hF) rfl ?_|(refine .aA [0,1,4,5,6,7,12] hK ?_;clear hK K)|(with_reducible refine .done (hK _ ?_);clear hK K)|refine U.of rfl ?_|(with_reducible refine au.aD (fun h =>?_) (fun h =>?_) <;>try simp only[h])) <;>try simp only[aF,R,decide_false,simprocAttr])
  all_goals clear R
  rw[ak.vH];rfl
 ·rw[h1] at hF;simp only[jE,h2];have g1:=nd s (j:=i) (by omega);have g2:=wo s (i:=i+1) (by omega);have hw:=eG (i:=i) (by omega);have hd:decide ((i:Int)≥0)=true:=decide_eq_true (by omega);have R:=y6 @hd (y6 @hl1 (y6 @hw (y6 @g1 (y6 @g2 (y6 @bd az)))))
  repeat' ((first |refine U.aE (by decide +kernel) rfl fun K hK =>?_|refine .flat _ (hF) rfl ?_|(refine .aA [0,1,4,5,6,7,12] hK ?_;clear hK K)|(with_reducible refine .done (hK _ ?_);clear hK K)|refine U.of rfl ?_|(with_reducible refine au.aD (fun h =>?_) (fun h =>?_) <;>try simp only[h])) <;>try simp only[aF,R,decide_true,simprocAttr])
  all_goals clear R
  trace_state
  all_goals rfl
theorem xa(s:ak)(c:UInt8):aM Tryz.prog 154 [enc s,enc (ak.of [c])] (.tuple [enc (ak.of (jE c s.l).1),enc (ak.of (jE c s.l).2.1),enc (jE c s.l).2.2]):=by
 refine aM.bL Tryz.func154 Hk IC JV (t8 rfl) (fun hwf W0 bC E1 =>?_);simp only[yk,Cs,bB,Z5];have R:=y6 @bd az
 repeat' ((first |refine U.aE (by decide +kernel) rfl fun K hK =>?_|refine .flat _ (Fi s c) rfl ?_|(refine .aA [0,1,4,5,6] hK ?_;clear hK K)|(with_reducible refine .done (hK _ ?_);clear hK K)|refine U.of rfl ?_|(with_reducible refine au.aD (fun h =>?_) (fun h =>?_) <;>try simp only[h])) <;>try simp only[aF,R,simprocAttr])
 all_goals clear R
 all_goals rfl
theorem Fx(s:ak)(hs:s.l.length≤281474976710656):aM Tryz.prog 74 [enc s] (enc s):=by
 refine aM.bL Tryz.func74 HP I7 Kp (t8 rfl) (fun hwf W0 bC E1 =>?_);simp only[yO,CV,bB];have R:=y6 @bd az
 repeat' ((first |refine U.aE (by decide +kernel) rfl fun K hK =>?_|refine .flat _ (EY s hs) rfl ?_|(refine .aA [0,2] hK ?_;clear hK K)|(with_reducible refine .done (hK _ ?_);clear hK K)|refine U.of rfl ?_|(with_reducible refine au.aD (fun h =>?_) (fun h =>?_) <;>try simp only[h])) <;>try simp only[aF,R,simprocAttr])
 all_goals clear R
 all_goals rfl
end Go.Proofs.YtoffnnjbplgnaaaGreatDoor
namespace Go.Proofs.YtoffnnjbplgnaaaGreatDoor
open Go Go.Abs
open Go.Abs.Enc (enc)
theorem zw{c:UInt8} : ∀ {x:List UInt8} (y:List UInt8),(∀ b∈x,b≠c)→cG c (x++c::y)=some (x,y)
 | [],y,_=>by simp[cG]
 |b::x,y,h=>by
  have ih:=zw (x:=x) y fun z hz=>h z (by simp[hz]);simp only[zz4,cG,if_neg (h b (by simp)),ih,Z9]
def dh(l:List Int):List UInt8:=l.flatMap fun n=>Lib.itoa n++[32]
def eZ(f:List UInt8→Option Int):Nat→List UInt8→Option (List Int×List UInt8)
 |0,s=>some ([],s)
 |k+1,s=>match cG 32 s with
  |none=>none
  |some (w,t)=>match f w with
   |none=>none
   |some n=>(eZ f k t).map fun p=>(n::p.1,p.2)
theorem wM{f:List UInt8→Option Int}(t:List UInt8):∀ {l:List Int},(∀ n∈l,0≤n∧f (Lib.itoa n)=some n)→eZ f l.length (dh l++t)=some (l,t)
 | [],_=>rfl
 |n::l,h=>by
  have ih:=wM t (l:=l) fun m hm=>h m (by simp[hm]);have hn:=h n (by simp);simp only[zz5,eZ,dh,List.flatMap_cons,zz0,zz4,zy7];rw[zw _ (Lp hn.1 (by decide))];simp only[hn.2];rw[dh] at ih;rw[ih,Z9]
def fC(w:List UInt8):Option Int:=match Lib.atoiAll w with
 | .ok n=>some n
 |_=>none
def hE(w:List UInt8):Option Int:=if w=[]∨8<w.length then none else (ed 0 w).map fun n=>(n:Int)
theorem BN{n:Int}(h:0≤n∧n<100000000):fC (Lib.itoa n)=some n∧hE (Lib.itoa n)=some n:=by
 obtain ⟨m,rfl⟩:=zz1 h.1;have hm:=Wo (k:=7) (show m<10^(7+1) by omega);obtain ⟨h1,h2,_⟩:=Wp (by omega) hm;refine ⟨by rw[fC,h1],?_⟩;rw[hE,if_neg]
 ·rw[Lib.itoa_nonneg,(px m).1];rfl
 ·rintro (k | k)
  ·exact VA h.1 k
  ·omega
def dD(r:aj):List Int:=[r.bf,r.no,r.kind,r.ec,r.known,r.eX,r.fm]
def fw(n:List Int)(t:List UInt8):aj:=⟨n.getD 1 0,n.getD 2 0,n.getD 3 0,n.getD 4 0,n.getD 5 0,n.getD 6 0,n.getD 7 0,t⟩
theorem Bp(s:Int)(r:aj):fw (s::dD r) r.text=r:=rfl
def cA(r:aj):List UInt8:=dh (dD r)++r.text
def cO(s:Int)(l:List UInt8):Int:=l.foldl (fun s c=>(257*s+c.toNat+1)%1000003) s
theorem mf{s:Int}(h:0≤s∧s<1000003):∀ l,0≤cO s l∧cO s l<1000003:=by
 intro l
 induction l generalizing s with
 |nil=>exact h
 |cons c l ih =>
  rw[cO,List.foldl_cons];exact ih (by omega)
def cV(s:Int)(r:aj):List UInt8:=dh [cO s (cA r)]++cA r++[10]
theorem V0(s:Int)(r:aj):cV s r=(dh (cO s (cA r)::dD r)++r.text)++[10]:=by
 simp only[cV,cA,dh,List.flatMap_cons,List.flatMap_nil,List.append_nil,zz0]
section
variable (ok:aj→Bool)
def kQ(s:Int)(t:List UInt8)(r:aj):Option (aj×Int):=if ok r=true∧cV s r=t then some (r,cO s (cA r)) else none
def dE(s:Int)(t:List UInt8):Option (aj×Int):=if t.getLast?=some 10 then
  (eZ fC 8 t.dropLast).bind fun p=>(kQ ok s t (fw p.1 p.2)).bind fun q=>if p.1.headD 0=q.2 then some q else none
 else none
def js(s:Int)(t:List UInt8):Option (aj×Int) :=
 (eZ hE 8 t).bind fun p=>if t.getLast?=some 10∧p.2≠[] then kQ ok s t (fw p.1 p.2.dropLast) else none
theorem zL{s:Int}{t:List UInt8}{r:aj}{q:aj×Int}(h:kQ ok s t r=some q):ok q.1=true∧cV s q.1=t∧q.2=cO s (cA q.1):=by
 rw[kQ] at h;by_cases c:ok r=true∧cV s r=t
 ·rw[if_pos c] at h;cases h;exact ⟨c.1,c.2,rfl⟩
 ·rw[if_neg c] at h;cases h
theorem vY{s:Int}{t:List UInt8}{q:aj×Int}(h:dE ok s t=some q):ok q.1=true∧cV s q.1=t∧q.2=cO s (cA q.1):=by
 rw[dE] at h;by_cases c:t.getLast?=some 10
 ·rw[if_pos c] at h;cases hp:eZ fC 8 t.dropLast with
  |none=>rw[hp] at h;cases h
  |some p =>
   rw[hp,zx1] at h;cases he:kQ ok s t (fw p.1 p.2) with
   |none=>rw[he] at h;cases h
   |some q' =>
    rw[he,zx1] at h;by_cases k:p.1.headD 0=q'.2
    ·rw[if_pos k] at h;cases h;exact zL ok he
    ·rw[if_neg k] at h;cases h
 ·rw[if_neg c] at h;cases h
theorem X4{s:Int}{t:List UInt8}{q:aj×Int}(h:js ok s t=some q):ok q.1=true∧cV s q.1=t∧q.2=cO s (cA q.1):=by
 rw[js] at h;cases hp:eZ hE 8 t with
 |none=>rw[hp] at h;cases h
 |some p =>
  rw[hp,zx1] at h;by_cases c:t.getLast?=some 10∧p.2≠[]
  ·rw[if_pos c] at h;exact zL ok h
  ·rw[if_neg c] at h;cases h
theorem Dk{s:Int}(hs:0≤s∧s<1000003){r:aj}(h:ok r=true)(hn:∀ n∈dD r,0≤n∧n<100000000) :
  dE ok s (cV s r)=some (r,cO s (cA r))∧js ok s (cV s r)=some (r,cO s (cA r)):=by
 have hb:=mf hs (cA r);have hm:∀ n∈cO s (cA r)::dD r,0≤n∧n<100000000:=fun n hn'=>by
  rcases zx4.1 hn' with rfl | hn'
  ·omega
  ·exact hn n hn'
 have e:=V0 s r;have hl:(cV s r).getLast?=some 10:=by rw[e,List.getLast?_append];rfl
 have hd:(cV s r).dropLast=dh (cO s (cA r)::dD r)++r.text:=by rw[e,List.dropLast_concat]
 have he:kQ ok s (cV s r) r=some (r,cO s (cA r)):=by rw[kQ,if_pos ⟨h,rfl⟩]
 constructor
 ·rw[dE,if_pos hl,hd,show 8=(cO s (cA r)::dD r).length from rfl,wM (f:=fC) r.text fun n hn'=>⟨(hm n hn').1,(BN (hm n hn')).1⟩,zx1];simp only[Bp,he,zx1,List.headD_cons,if_true]
 ·have ht:eZ hE 8 (cV s r)=some (cO s (cA r)::dD r,r.text++[10]):=by
   rw[e,zz0];exact wM (f:=hE) (r.text++[10]) fun n hn'=>⟨(hm n hn').1,(BN (hm n hn')).2⟩
  rw[js,ht,zx1,if_pos ⟨hl,by simp⟩];simp only[List.dropLast_concat,Bp,he]
theorem X5{s:Int}(hs:0≤s∧s<1000003)(hok:∀ r,ok r=true→∀ n∈dD r,0≤n∧n<100000000)(t:List UInt8):dE ok s t=js ok s t:=by
 cases h:dE ok s t with
 |some q =>
  obtain ⟨h1,h2,h3⟩:=vY ok h;rw[←h2,(Dk ok hs h1 (hok _ h1)).2,←h3]
 |none =>
  cases h':js ok s t with
  |none=>rfl
  |some q =>
   obtain ⟨h1,h2,h3⟩:=X4 ok h';rw[←h2,(Dk ok hs h1 (hok _ h1)).1] at h;cases h
end
def jC:List PanicEntry:=[{ v:=.iface 176 (.agg #[]),recovered:=false }]
theorem mO{Q:Exit→ab→Prop}{x:aw}{A:ab}(h:af A x=.iface 176 (.agg []))(hq:Q (.panic jC) A):lE Tryz.prog Q (.prim .kl [x]) A:=.kl h hq
theorem jN:(∀ T:TypeId,dX (.lT T) [.agg []]=some (.iface T (.agg [])))∧fp [] []=some []:=⟨fun _=>rfl,rfl⟩
theorem vO{A:ab} : vP jC (fun os'=>os'=[]) (.panic jC) A:=⟨rfl,[],[],u9,trivial,rfl,rfl⟩
theorem my:(I.ah ⟨#[32]⟩)=enc (ak.of [32]):=rfl
theorem pz:(I.ah ⟨#[10]⟩)=enc (ak.of [10]):=rfl
theorem BM{w:List UInt8}{n:Int}(h:fC w=some n):gC 234 w=.tuple [enc n,.cQ]:=by
 unfold fC at h;split at h
 ·rename_i m hm;cases h;simp only[gC,hm]
 ·cases h
theorem BL{w:List UInt8}(h:fC w=none):∃ n:Int,gC 234 w=.tuple [enc n,.iface 234 .any]:=by
 unfold fC at h;split at h
 ·cases h
 ·rename_i hm;cases hr:Lib.atoiAll w with
  |ok n=>exact absurd hr (hm n)
  |range=>exact ⟨_,by simp only[gC,hr];rfl⟩
  | _ =>exact ⟨0,by simp only[gC,hr]⟩
theorem ru{c:UInt8}{l:List UInt8}{p:List UInt8×List UInt8}(h:cG c l=some p):p.1.length+p.2.length<l.length:=by
 rcases nP c l with ⟨h1,_⟩ | ⟨i,h0,_,h2⟩
 ·rw[h1] at h;cases h
 ·rw[h2] at h;cases h;simp only[Z7,zx5];omega
theorem wZ(s:ak)(hlen:s.l.length≤281474976710656)(w t:List UInt8)(n:Int)(h1:cG 32 s.l=some (w,t))(h2:fC w=some n):aM Tryz.prog 126 [enc s] (.tuple [enc n,enc (ak.of t)]):=by
 refine aM.bL Tryz.func126 zd zj JI (t8 rfl) (fun hwf W0 bC E1 =>?_);simp only[uc,Cf,bB];clear hwf;have hc:=xa s 32;simp only[jE,h1] at hc;have hl:=ru h1;simp only at hl;have ha:=tC (ak.of w) (by rw[ak.c8];omega);rw[ak.c8,BM h2] at ha;have R:=y6 @my (y6 @bd az)
 repeat' ((first |(with_reducible refine .guard (fun hb =>?_) (fun hb =>?_) <;>try simp only[hb])|refine U.aE (by decide +kernel) rfl fun K hK =>?_|refine .flat _ (hc) rfl ?_|refine .lead _ (ha) ?_|(refine .aA [0,2,3,4,5,6,7,8,25] hK ?_;clear hK K)|(with_reducible refine .done (hK _ ?_);clear hK K)|refine U.of rfl ?_|(with_reducible refine au.aD (fun h =>?_) (fun h =>?_) <;>try simp only[h])) <;>try simp only[aF,R,simprocAttr])
 all_goals clear R
 all_goals rfl
theorem EX(s:ak)(hlen:s.l.length≤281474976710656)(h:∀ w t,cG 32 s.l=some (w,t)→fC w=none):oW Tryz.prog 126 jC [enc s] [] (fun os'=>os'=[]):=by
 refine oW.mk Tryz.func126 zd zj (t8 rfl) (t8 rfl) (fun m hm=>by simp[aH,aJ] at hm) (fun hwf W0 bC E1 =>?_);simp only[uc,bB];clear hwf;have hc:=xa s 32;cases h1:cG 32 s.l with
 |none =>
  simp only[jE,h1] at hc;have ha:=tC (ak.of s.l) (by rw[ak.c8];omega);rw[ak.c8] at ha;cases ho:fC s.l with
  |some n =>
   rw[BM ho] at ha;have R:=y6 @my (y6 @jN (y6 @bd az))
   repeat' ((first |(with_reducible refine .guard (fun hb =>?_) (fun hb =>?_) <;>try simp only[hb])|(refine U.lj (gs:=rO) (gs1:=[_,_]) rfl fun K hK =>?_)|refine U.aE (by decide +kernel) rfl fun K hK =>?_|refine .flat _ (hc) rfl ?_|refine .lead _ (ha) ?_|(refine .aA [0,2,3,4,5,6,7,8,25] hK ?_;clear hK K)|(with_reducible refine .done (hK _ ?_);clear hK K)|refine U.of rfl ?_|(with_reducible refine au.aD (fun h =>?_) (fun h =>?_) <;>try simp only[h])) <;>try simp only[aF,R,simprocAttr])
   all_goals clear R
   refine mO ?_ vO;rfl
  |none =>
   obtain ⟨n,hn⟩:=BL ho;rw[hn] at ha;have R:=y6 @my (y6 @jN (y6 @bd az))
   repeat' ((first |(with_reducible refine .guard (fun hb =>?_) (fun hb =>?_) <;>try simp only[hb])|(refine U.lj (gs:=rO) (gs1:=[_,_]) rfl fun K hK =>?_)|refine U.aE (by decide +kernel) rfl fun K hK =>?_|refine .flat _ (hc) rfl ?_|refine .lead _ (ha) ?_|(refine .aA [0,2,3,4,5,6,7,8,25] hK ?_;clear hK K)|(with_reducible refine .done (hK _ ?_);clear hK K)|refine U.of rfl ?_|(with_reducible refine au.aD (fun h =>?_) (fun h =>?_) <;>try simp only[h])) <;>try simp only[aF,R,simprocAttr])
   all_goals clear R
   refine mO ?_ vO;rfl
 |some p =>
  obtain ⟨w,t⟩:=p;simp only[jE,h1] at hc;have hl:=ru h1;simp only at hl;have ha:=tC (ak.of w) (by rw[ak.c8];omega);obtain ⟨n,hn⟩:=BL (h w t h1);rw[ak.c8,hn] at ha;have R:=y6 @my (y6 @jN (y6 @bd az))
  repeat' ((first |(with_reducible refine .guard (fun hb =>?_) (fun hb =>?_) <;>try simp only[hb])|(refine U.lj (gs:=rO) (gs1:=[_,_]) rfl fun K hK =>?_)|refine U.aE (by decide +kernel) rfl fun K hK =>?_|refine .flat _ (hc) rfl ?_|refine .lead _ (ha) ?_|(refine .aA [0,2,3,4,5,6,7,8,25] hK ?_;clear hK K)|(with_reducible refine .done (hK _ ?_);clear hK K)|refine U.of rfl ?_|(with_reducible refine au.aD (fun h =>?_) (fun h =>?_) <;>try simp only[h])) <;>try simp only[aF,R,simprocAttr])
  all_goals clear R
  refine mO ?_ vO;rfl
theorem Vm:qQ Tryz.prog 124 3:=⟨zc,fun bs w hb=>by
 obtain ⟨b1,b2,b3,rfl⟩:∃ b1 b2 b3,bs=[b1,b2,b3]:=by
  match bs,hb with
  | [a,b,c],_=>exact ⟨a,b,c,rfl⟩
 refine callsDIn_of_wpSIn Tryz.func124 rfl trivial fun c₀ cs hu =>?_;apply wpSIn_seq;apply wpSIn_region;simp[wpOpsSIn,go_sem,recoverD,hu,Tryz.ntmps124,Exit.thenS];refine wpSIn_of_wpIn rfl (wpIn_block (wpIn_seq (wpIn_region_list ?_)));simp[wpListIn,go_sem];refine wpIn_cond (t:=true) (by simp[Act.eval,Array.replicate]) ?_;simp only[if_true];refine wpIn_region_list ?_;simp[wpListIn,go_sem,Exit.inBlock];cases c₀
 simp_all[bodyPostS,results,Tryz.results124]⟩
theorem vL{P:Program}{o:Oper}{a:Act}{w w':World}{Kw:Act→World→Prop}{Q:Exit→Act→World→Prop}{n:Nat}(h:(execOp a.eval o).run P w=.ok .skip w')(hK:Kw (a.put o.dst undef) w'):o.wpIn Fence.wide n P a w Kw Q:=by
 refine ⟨fun _ _=>trivial,?_⟩
 show o.uponIn _ _ _ _ _ _ ((execOp a.eval o).run P w)
 rw[h,Oper.uponIn_skip];exact hK
theorem Xr{P:Program}{o:Oper}{a:Act}{w w':World}{v:Value}{Kw:Act→World→Prop}{Q:Exit→Act→World→Prop}{n:Nat}(h:(execOp a.eval o).run P w=.ok (.value v) w')(hK:Kw (a.put o.dst v) w'):o.wpIn Fence.wide n P a w Kw Q:=by
 refine ⟨fun _ _=>trivial,?_⟩
 show o.uponIn _ _ _ _ _ _ ((execOp a.eval o).run P w)
 rw[h,Oper.uponIn_value];exact hK
theorem wE{P:Program}{o:Oper}{ρ:Operand→Value}{t:TypeId}{x y:Operand}{p v:Value}{w w':World}(ho:o.op=.store t x y)(hx:ρ x=p)(hy:ρ y=v)(h:(Instr.storeAt t p v).run P w=.ok () w'):(execOp ρ o).run P w=.ok .skip w':=by
 simp only[execOp,ho,hx,hy,Sem.run_bind,h];rfl
theorem wH{c:cd}{A:ab}{a:Act}{w:World}{D:aI}{E:aO}{P:Program}(hs:aL c A a w D E){N b:Nat}{x z:I}{v:Value}{ds:List Value}{t:TypeId}{i:TypeInfo}(hn:A.o N=some (.box x))(ar:E N=some (.aG b z.aK))(hsh:x.aK=z.aK)
  (hz:ae w D E z ds) (hv:v.cells.toList=ds) (hi:P.info? t=some i) (hsz:i.size=ds.length) :
  ∃ w',(Instr.storeAt t (jT b) v).run P w=.ok () w'∧aL c (A.aP N (.box z)) a w' D E:=by
 obtain ⟨b',cs,T,k1,k2,k3,k4,k5⟩:=hs.box hn;rw[ar] at k1;simp only[v6,bt.aG.injEq] at k1;obtain ⟨rfl,_⟩:=k1;have l1:=ae.length _ _ k4;have l2:=ae.length _ _ hz;have l3:x.size=z.size:=by rw[←I.ic x,←I.ic z,hsh]
 have hcl:cs.size=ds.length:=by rw[←zy2,l1,l2,l3]
 have hrun:=s7 P b 0 T ds 0 cs w k3 (by omega) (ae.kj _ _ hz);simp only[Nat.add_zero] at hrun;have e:(cs.toList.take 0++ds++cs.toList.drop (0+ds.length))=ds:=by
  rw[List.take_zero,zy7,Z5,List.drop_eq_nil_of_le (by rw[zy2];omega),List.append_nil]
 rw[e] at hrun;have hs2:=hs.wu (y:=z) (cs':=ds.toArray) hn (hsh▸ar) hsh.symm (by simpa using hz);refine ⟨w.setRow b ds.toArray,?_,hs2⟩;have hg:¬ v.cells.size≠i.size:=by rw[hsz,←hv];simp
 have e2:P.cellsOf t=i.size:=by simp[Program.cellsOf,hi]
 simp only[jT,Instr.storeAt,Instr.sureAddr,storeVar,Sem.run_bind,Sem.run_pure,Result.andThen_ok,gy hi,Sem.run_ite,e2,if_neg hg,hv,hrun]
theorem Ii:qN Tryz.prog 124 jC [enc (default:aj),.int .i64 0,.bool false]:=⟨zc,fun c A a w D E Ns bs hP hs ar hA=>by
 have hta:∀ W,(Instr.typeAssert (.iface 176 (.agg #[])) 20 176 true).run Tryz.prog W=.ok (.tuple #[.agg #[],.bool true]) W:=fun W=>by
  simp[Instr.typeAssert,run_underlying Tryz.underlying176]
 obtain ⟨N1,N2,N3,rfl⟩:∃ a b c,Ns=[a,b,c]:=by
  match Ns,ar.len.2 with
  | [a,b,c],_=>exact ⟨a,b,c,rfl⟩
 obtain ⟨b1,b2,b3,rfl⟩:∃ a b c,bs=[a,b,c]:=by
  match bs,ar.len.1 with
  | [a,b,c],_=>exact ⟨a,b,c,rfl⟩
 obtain ⟨hE1,hE2,hE3,_⟩:=ar;obtain ⟨⟨x1,hx1,hsh1⟩,⟨x2,hx2,hsh2⟩,⟨x3,hx3,hsh3⟩,_⟩:=hA;refine callsDIn_of_wpSIn Tryz.func124 rfl trivial fun c₀ cs hu =>?_;apply wpSIn_seq;apply wpSIn_region;simp[wpOpsSIn,go_sem,recoverD,hu,Tryz.ntmps124,Exit.thenS,jC];refine wpSIn_of_wpIn rfl (wpIn_block (wpIn_seq (wpIn_region_list ?_)));simp[wpListIn,go_sem];refine wpIn_cond (t:=false) (by simp[Act.eval,Array.replicate]) ?_;simp only[Z8,if_false];refine wpIn_seq (wpIn_region_list ?_);simp[wpListIn,go_sem,hta];refine wpIn_cond (t:=true) (by simp[Act.eval,Array.replicate]) ?_;simp only[if_true];refine wpIn_seq (wpIn_region_list ?_);simp[wpListIn,go_sem];refine wpIn_region_list ?_;have hb:Go.RowKit.Below w.heap.size w (w.alloc (Obj.cells #[] 176)):=jd _ _;have hs1:=hs.grow (D':=D) hb (fun _ _ h=>h) (fun _ _ h _=>h) (fun b o hd=>Nat.lt_of_lt_of_le (hs.cM b o hd) hb.size);generalize w.alloc (Obj.cells #[] 176)=W1 at *;have nx:∀ {A:ab} {N M b d:Nat} {z y:I},E N=some (.aG b z.aK)→E M=some (.aG d y.aK)→(∃ x,A.o M=some (.box x)∧x.aK=y.aK)→∃ x,(A.aP N (.box z)).o M=some (.box x)∧x.aK=y.aK:=by
  intro A N M b d z y h1 h2 ⟨x,h3,h4⟩;by_cases e:M=N
  ·subst e;rw[h1] at h2;simp only[v6,bt.aG.injEq] at h2;exact ⟨z,by simp[ab.aP],h2.2⟩
  ·exact ⟨x,by simp[ab.aP,e,h3],h4⟩
 obtain ⟨i50,hi50,hz50⟩:∃ i,Tryz.prog.info? 50=some i∧i.size=8:=by
  have h:(Tryz.prog.info? 50).map (·.size)=some 8:=by kernel_rfl
  obtain ⟨i,h1,h2⟩:=t7.1 h;exact ⟨i,h1,h2⟩
 obtain ⟨i3,hi3,hz3⟩:∃ i,Tryz.prog.info? 3=some i∧i.size=1:=by
  have h:(Tryz.prog.info? 3).map (·.size)=some 1:=by kernel_rfl
  obtain ⟨i,h1,h2⟩:=t7.1 h;exact ⟨i,h1,h2⟩
 obtain ⟨i4,hi4,hz4⟩:∃ i,Tryz.prog.info? 4=some i∧i.size=1:=by
  have h:(Tryz.prog.info? 4).map (·.size)=some 1:=by kernel_rfl
  obtain ⟨i,h1,h2⟩:=t7.1 h;exact ⟨i,h1,h2⟩
 obtain ⟨W2,hst1,hs2⟩:=wH (P:=Tryz.prog) (t:=50) (z:=enc (default:aj)) (v:=.agg #[.int .i64 0,.int .i64 0,.int .i64 0,.int .i64 0,.int .i64 0,.int .i64 0,.int .i64 0,.string ⟨#[]⟩]) hs1 hx1 hE1 hsh1
  (ds:=[.int .i64 0,.int .i64 0,.int .i64 0,.int .i64 0,.int .i64 0,.int .i64 0,.int .i64 0,.string ⟨#[]⟩]) (by
   show ae _ _ _ (.agg [.agg [.int .i64 0,.int .i64 0],.int .i64 0,.int .i64 0,.int .i64 0,.agg [.int .i64 0,.int .i64 0],.ah ⟨#[]⟩]) _
   simp only[ae,aB];refine ⟨[.int .i64 0,.int .i64 0],_,rfl,⟨[.int .i64 0],_,rfl,⟨rfl,by decide⟩,[.int .i64 0],_,rfl,⟨rfl,by decide⟩,rfl⟩,[.int .i64 0],_,rfl,⟨rfl,by decide⟩,[.int .i64 0],_,rfl,⟨rfl,by decide⟩,[.int .i64 0],_,rfl,⟨rfl,by decide⟩,[.int .i64 0,.int .i64 0],_,rfl,⟨[.int .i64 0],_,rfl,⟨rfl,by decide⟩,[.int .i64 0],_,rfl,⟨rfl,by decide⟩,rfl⟩,[.string ⟨#[]⟩],[],rfl,⟨rfl,by decide⟩,rfl⟩) rfl hi50 hz50
 obtain ⟨y2,hy2,hsh2'⟩:=nx hE1 hE2 ⟨x2,hx2,hsh2⟩;obtain ⟨W3,hst2,hs3⟩:=wH (P:=Tryz.prog) (t:=3) (z:=.int .i64 0) (v:=.int .i64 0) hs2 hy2 hE2 hsh2' (ds:=[.int .i64 0]) (by simp only[ae];exact ⟨trivial,by decide⟩) rfl hi3 hz3;obtain ⟨y3,hy3,hsh3'⟩:=nx hE2 hE3 (nx hE1 hE3 ⟨x3,hx3,hsh3⟩);obtain ⟨W4,hst3,hs4⟩:=wH (P:=Tryz.prog) (t:=4) (z:=.bool false) (v:=.bool false) hs3 hy3 hE3 hsh3' (ds:=[.bool false]) (by simp only[ae]) rfl hi4 hz4;have hbl:∀ W,(Instr.build 50 #[]).run Tryz.prog W=.ok (.agg #[.int .i64 0,.int .i64 0,.int .i64 0,.int .i64 0,.int .i64 0,.int .i64 0,.int .i64 0,.string ⟨#[]⟩]) W:=fun W=>by
  simp[Instr.build,Tryz.zeroValue50,Instr.fill,Value.cells]
 simp only[wpListIn,Region.wanted,if_true];refine Xr (v:=.agg #[.int .i64 0,.int .i64 0,.int .i64 0,.int .i64 0,.int .i64 0,.int .i64 0,.int .i64 0,.string ⟨#[]⟩]) (by simp only[execOp,Array.map_empty,Sem.run_bind,hbl];rfl) ?_;refine vL (wE rfl (by simp[Act.eval,Act.put]) (by simp[Act.eval,Act.put]) hst1) ?_;refine vL (wE rfl (by simp[Act.eval,Act.put]) (by simp[Act.eval]) hst2) ?_;refine vL (wE rfl (by simp[Act.eval,Act.put]) (by simp[Act.eval]) hst3) ?_;simp[Exit.inBlock,bodyPostS,results,Tryz.results124,settle];exact ⟨rfl,hs4⟩⟩
end Go.Proofs.YtoffnnjbplgnaaaGreatDoor
namespace Go.Proofs.YtoffnnjbplgnaaaGreatDoor
open Go Go.Abs Go.Shelf Go.RowKit
open Go.Abs.Enc (enc)
def A6:Go.Shelf.Ren:=⟨fun | 166=>156 | 240=>173 | 276=>194 | n=>n,fun | 70=>203 | 9=>9 | 3=>3 | 75=>199 | 0=>0 | 72=>205 | 37=>45 | 4=>4 | 164=>237 | 80=>206 | 5=>5 | n=>n,fun | n=>n⟩
theorem VQ:Go.Proofs.Lays.n166 Tryz.prog A6 := {
 mixed:=by kernel_rfl
 f166:=Tryz.func156.trans (congrArg some (by kernel_rfl))
 f240:=Tryz.func173.trans (congrArg some (by kernel_rfl))
 f276:=Tryz.func194.trans (congrArg some (by kernel_rfl))
 t0:=Tryz.underlying0
 a0:=Tryz.isAgg0
 z0:=Tryz.sizeOf0
 v0:=Tryz.zeroValue0
 t3:=Tryz.underlying3
 a3:=Tryz.isAgg3
 z3:=Tryz.sizeOf3
 v3:=Tryz.zeroValue3
 t4:=Tryz.underlying4
 a4:=Tryz.isAgg4
 z4:=Tryz.sizeOf4
 v4:=Tryz.zeroValue4
 t9:=Tryz.underlying9
 a9:=Tryz.isAgg9
 z9:=Tryz.sizeOf9
 v9:=Tryz.zeroValue9
 t20:=Tryz.underlying20
 a20:=Tryz.isAgg20
 z20:=Tryz.sizeOf20
 v20:=Tryz.zeroValue20
 t37:=Tryz.underlying45
 a37:=Tryz.isAgg45
 z37:=Tryz.sizeOf45
 v37:=Tryz.zeroValue45
 t70:=Tryz.underlying203
 a70:=Tryz.isAgg203
 z70:=Tryz.sizeOf203
 v70:=Tryz.zeroValue203
 t72:=Tryz.underlying205
 a72:=Tryz.isAgg205
 z72:=Tryz.sizeOf205
 v72:=Tryz.zeroValue205
 t75:=Tryz.underlying199
 a75:=Tryz.isAgg199
 z75:=Tryz.sizeOf199
 v75:=Tryz.zeroValue199
 t164:=Tryz.underlying237
 a164:=Tryz.isAgg237
 z164:=Tryz.sizeOf237
 v164:=Tryz.zeroValue237 }
def A7:Go.Shelf.Ren:=⟨fun | 169=>157 | n=>n,fun | 70=>203 | 9=>9 | 0=>0 | 72=>205 | 37=>45 | 127=>202 | 3=>3 | 5=>5 | n=>n,fun | n=>n⟩
theorem VR:Go.Proofs.Lays.n169 Tryz.prog A7 := {
 mixed:=by kernel_rfl
 f169:=Tryz.func157.trans (congrArg some (by kernel_rfl))
 t0:=Tryz.underlying0
 a0:=Tryz.isAgg0
 z0:=Tryz.sizeOf0
 v0:=Tryz.zeroValue0
 t3:=Tryz.underlying3
 a3:=Tryz.isAgg3
 z3:=Tryz.sizeOf3
 v3:=Tryz.zeroValue3
 t9:=Tryz.underlying9
 a9:=Tryz.isAgg9
 z9:=Tryz.sizeOf9
 v9:=Tryz.zeroValue9
 t37:=Tryz.underlying45
 a37:=Tryz.isAgg45
 z37:=Tryz.sizeOf45
 v37:=Tryz.zeroValue45
 t70:=Tryz.underlying203
 a70:=Tryz.isAgg203
 z70:=Tryz.sizeOf203
 v70:=Tryz.zeroValue203
 t72:=Tryz.underlying205
 a72:=Tryz.isAgg205
 z72:=Tryz.sizeOf205
 v72:=Tryz.zeroValue205
 t127:=Tryz.underlying202
 a127:=Tryz.isAgg202
 z127:=Tryz.sizeOf202
 v127:=Tryz.zeroValue202 }
theorem L8:Builder.Extra Tryz.prog A6 where
 sizeBuilder:=by kernel_rfl
 liesBuilder:=by kernel_rfl
 t5:=Tryz.underlying5
 a5:=Tryz.isAgg5
 z5:=Tryz.sizeOf5
 v5:=Tryz.zeroValue5
 infoByte:=by kernel_rfl
 cellsByte:=by kernel_rfl
 sizeByte:=by kernel_rfl
 neB5:=by decide
theorem L9:Builder.Extra Tryz.prog A7 where
 sizeBuilder:=by kernel_rfl
 liesBuilder:=by kernel_rfl
 t5:=Tryz.underlying5
 a5:=Tryz.isAgg5
 z5:=Tryz.sizeOf5
 v5:=Tryz.zeroValue5
 infoByte:=by kernel_rfl
 cellsByte:=by kernel_rfl
 sizeByte:=by kernel_rfl
 neB5:=by decide
abbrev kG(B b:Nat)(l:List UInt8)(w:World):Prop:=Lib.IsBuilderF 205 5 B b (Lib.byteCells l) w
abbrev tH(b:Nat)(w w':World):Prop:=Lib.OthersKept 5 (some b) w w'
theorem EH(B b:Nat)(l:List UInt8)(s:ByteArray)(w:World)(h:kG B b l w)(hlen:l.length+s.size≤140737488355328)(hB:B≤w.heap.size) :
  Calls Tryz.prog 156 #[.pointer (some ⟨b,0,none⟩),.string s] w fun e w'=>e=.returned (.tuple #[.int .i64 s.size,.nilIface])∧(kG B b (l++s.data.toList) w'∧Below B w w'∧tH b w w'):=by
 refine (Any.Builder_WriteString_k VQ L8 B b (Lib.byteCells l) s w h (by rw[Lib.byteCells_length];exact hlen) hB).mono ?_;rintro e w' ⟨rfl,h1,h2,h3⟩;refine ⟨rfl,.inr ?_,h2,h3⟩;rw[Lib.byteCells_append];exact h1
theorem xO(B b:Nat)(l:List UInt8)(w:World)(h:kG B b l w)(hB:B≤w.heap.size) :
  Calls Tryz.prog 157 #[.pointer (some ⟨b,0,none⟩)] w fun e w'=>e=.returned (.string ⟨l.toArray⟩)∧(kG B b l w'∧Below B w w'∧tH b w w'):=Any.Builder_String_any_k VR L9 B b l w h hB
theorem Vz(n:Int)(h:IntKind.i64.min≤n∧n≤IntKind.i64.max)(W:World)(hl:eB Tryz.prog W (fun _=>False)):Calls Tryz.prog 132 #[.int .i64 n] W fun e w'=>e=.returned (.string ⟨(Lib.itoa n).toArray⟩)∧Below W.heap.size W w':=by
 have h3':-9223372036854775808≤n:=h.1;have h4':n≤9223372036854775807:=h.2;obtain ⟨_,htab,rfl⟩:=hl.rQ (n:=r3) (k:=.sJ) (g:=3) (by simp[mE]) (by kernel_rfl);refine (Any.strconv_Itoa A2 n h3' h4' W htab).mono ?_;rintro e w' ⟨rfl,k,os,rfl⟩;exact ⟨rfl,tZ W k os⟩
theorem A1{w wr:World}(hl:eB Tryz.prog w (fun _=>False))(h:Below w.heap.size w wr):eB Tryz.prog wr (fun _=>False) :=
 hl.AY (M:=fun b=>w.heap.size≤b) ⟨h.os,h.tape,h.output,h.size,fun k hk=>h.block k (by omega)⟩ (fun b hb=>.inl hb) (fun b hb=>hb.elim)
theorem rZ{B b:Nat}{l:List UInt8}{w w':World}(hI:kG B b l w)(h:Below w.heap.size w w'):kG B b l w':=by
 have key:∀ p,Lib.BuilderAtF 205 5 B b p (Lib.byteCells l) w→Lib.BuilderAtF 205 5 B b p (Lib.byteCells l) w':=by
  rintro p ⟨h1,v,h2,⟨h3,h4⟩,h5⟩;refine ⟨h1,v,(h.block b (eF h2)).trans h2,⟨h3,?_⟩,h5⟩;rcases h4 with h4 | ⟨g,cap,cur,fz,k1,k2,k3,k4⟩
  ·exact .inl h4
  ·exact .inr ⟨g,cap,cur,fz,k1,k2,(h.block g (eF k3)).trans k3,k4⟩
 exact hI.imp (key _) (key _)
theorem Ih(a:List UInt8)(t:ByteArray):((⟨a.toArray⟩:ByteArray)++t)=⟨(a++t.data.toList).toArray⟩:=by
 apply ByteArray.ext;simp[ByteArray.data_append]
theorem Yu(l:List Int)(n:Int):dh (l++[n])=dh l++(Lib.itoa n++[32]):=by simp[dh]
theorem GO(m n k d kn om on:Int)(t:ByteArray)(w:World)(hl:eB Tryz.prog w (fun _=>False))(hbd:∀ x∈[m,n,k,d,kn,om,on],IntKind.i64.min≤x∧x≤IntKind.i64.max)(ht:t.size≤1000000000000) :
  Calls Tryz.prog 131 #[.agg #[.int .i64 m,.int .i64 n,.int .i64 k,.int .i64 d,.int .i64 kn,.int .i64 om,.int .i64 on,.string t]] w fun e w'=>e=.returned (.string ⟨(dh [m,n,k,d,kn,om,on]++t.data.toList).toArray⟩)∧Below w.heap.size w w':=by
 obtain ⟨vs,hvs⟩:∃ vs:List Int,vs=[m,n,k,d,kn,om,on]:=⟨_,rfl⟩
 have hvl:vs.length=7:=by rw[hvs];rfl
 rw[←hvs] at hbd;have hlen:∀ j,(dh (vs.take j)).length≤22*j:=by
  intro j;have:∀ l:List Int,(∀ x∈l,IntKind.i64.min≤x∧x≤IntKind.i64.max)→(dh l).length≤22*l.length:=by
   intro l
   induction l with
   |nil=>intro _;simp[dh]
   |cons x l ih =>
    intro h;have h1:=ih fun y hy=>h y (by simp[hy]);have h2:=Lib.itoa_length_le x (h x (by simp)).1 (h x (by simp)).2;simp only[dh] at h1;simp only[dh,List.flatMap_cons,Z1,zz5,zy6];omega
  have h3:=this (vs.take j) fun x hx=>hbd x (List.mem_of_mem_take hx);have h4:(vs.take j).length≤j:=by rw[Z7];omega
  omega
 go_enter Tryz.func131,Tryz.ntmps131
 go_wp2
 go_loopw [26] (fun i wr=>∃ j:Nat,j≤7∧i=.int .i64 j∧kG w.heap.size (w.heap.size+1) (dh (vs.take j)) wr∧wr.heap[w.heap.size]?=some (.cells #[.int .i64 m,.int .i64 n,.int .i64 k,.int .i64 d,.int .i64 kn,.int .i64 om,.int .i64 on,.string t] 50) ∧
  wr.heap[w.heap.size+1+1]?=some (.cells (vs.map (Value.int .i64)).toArray 3)∧Below w.heap.size w wr) (fun i _=>7-(RowKit.intOf i).toNat)
 case atStart =>
  obtain ⟨c1,hc1⟩:∃ c1,c1=Obj.cells #[.int .i64 m,.int .i64 n,.int .i64 k,.int .i64 d,.int .i64 kn,.int .i64 om,.int .i64 on,.string t] 50:=⟨_,rfl⟩
  have hv0:(#[.int .i64 m,.int .i64 n,.int .i64 k,.int .i64 d,.int .i64 kn,.int .i64 om,.int .i64 on]:Array Value)=(vs.map (Value.int .i64)).toArray:=by rw[hvs];rfl
  rw[←hc1,hv0];obtain ⟨w1,hw1⟩:∃ w1,w1=w.alloc c1:=⟨_,rfl⟩
  obtain ⟨w2,hw2⟩:∃ w2,w2=w1.alloc (Obj.cells #[Value.pointer none,Value.slice none 0 0] 205):=⟨_,rfl⟩
  obtain ⟨w3,hw3⟩:∃ w3,w3=w2.alloc (Obj.cells (vs.map (Value.int .i64)).toArray 3):=⟨_,rfl⟩
  have s1:w1.heap.size=w.heap.size+1:=by rw[hw1];simp
  have s2:w2.heap.size=w.heap.size+1+1:=by rw[hw2];simp[s1]
  have b1:Below w.heap.size w w1:=hw1▸jd w c1;have b2:Below w1.heap.size w1 w2:=hw2▸jd w1 _;have b3:Below w2.heap.size w2 w3:=hw3▸jd w2 _;have e1:w1.heap[w.heap.size]?=some c1:=hw1▸heap_alloc_new w c1;have e2:w2.heap[w1.heap.size]?=some (Obj.cells #[Value.pointer none,Value.slice none 0 0] 205):=hw2▸heap_alloc_new w1 _;have e3:w3.heap[w2.heap.size]?=some (Obj.cells (vs.map (Value.int .i64)).toArray 3):=hw3▸heap_alloc_new w2 _;rw[←hw1,←hw2,←hw3];refine ⟨0,by omega,rfl,.inl ⟨by omega,.slice none 0 0,?_,⟨rfl,.inl ⟨rfl,rfl⟩⟩,by simp[Value.ownBlock]⟩,?_,?_,?_⟩
  ·rw[b3.block _ (by omega),←s1];exact e2
  ·rw[b3.block _ (by omega),b2.block _ (by omega)];exact e1
  ·rw[←s2];exact e3
  ·exact (b1.trans (b2.mono (by omega))).trans (b3.mono (by omega))
 case round =>
  obtain ⟨j,hj,rfl,hI,hr,hv,hbw⟩:=hrel;have hB1:w.heap.size≤wr.heap.size:=hbw.size;by_cases hlt:j<7
  ·have hjv:j<vs.length:=by omega
   have hc:wr.cell? ⟨w.heap.size+1+1,j,none⟩=some (.int .i64 vs[j]):=by
    simp[World.cell?,hv,hjv]
   have hbx:=hbd vs[j] (List.getElem_mem hjv);have jJ:=Lib.itoa_length_le vs[j] hbx.1 hbx.2;have hj2:=hlen j;have htk:dh (vs.take (j+1))=dh (vs.take j)++(Lib.itoa vs[j]++[32]):=by rw[List.take_succ_eq_append_getElem hjv,Yu]
   generalize vs[j]=x at *;have hsz:((⟨(Lib.itoa x).toArray⟩:ByteArray)++⟨#[32]⟩).size=(Lib.itoa x).length+1:=by rw[ByteArray.size_append];rfl
   have hdat:((⟨(Lib.itoa x).toArray⟩:ByteArray)++⟨#[32]⟩).data.toList=Lib.itoa x++[32]:=by simp
   have hlt':decide ((j:Int)<7)=true:=by simp;omega
   have hw:=eG (i:=j) (by omega)
   go_wp2_with (first | (go_at_call 132;refine (Vz x hbx _ (A1 hl hbw)).mono ?_;rintro e W1 ⟨rfl,hb1⟩) | (go_at_call 156;refine (EH w.heap.size (w.heap.size+1) _ _ _ (rZ hI hb1) (by rw[hsz];omega) (by have:=hb1.size;omega)).mono ?_;rintro e W2 ⟨rfl,hI2,hb2,hk2⟩))
   have q1:w.heap.size<wr.heap.size:=eF hr;have q2:w.heap.size+1+1<wr.heap.size:=eF hv;refine ⟨⟨j+1,by omega,rfl,?_,?_,?_,?_⟩,by simp only[RowKit.intOf];omega⟩
   ·rw[htk];rw[hdat] at hI2;exact hI2
   ·exact hk2 _ _ ((hb1.block _ q1).trans hr) (by simp) (fun c fz e=>by cases e)
   ·exact hk2 _ _ ((hb1.block _ q2).trans hv) (by simp) (fun c fz e=>by cases e)
   ·exact (hbw.trans (hb1.mono hB1)).trans hb2
  ·have hj7:j=7:=by omega
   subst hj7;have hlt':decide (((7:Nat):Int)<7)=false:=by decide
   rw[List.take_of_length_le (by omega)] at hI;have hcr:wr.cell? ⟨w.heap.size,7,none⟩=some (.string t):=by simp[World.cell?,hr]
   have q1:w.heap.size<wr.heap.size:=eF hr
   go_wp2
   have hI1:kG w.heap.size (w.heap.size+1) (dh vs) wr.drew:=rZ hI ⟨rfl,rfl,rfl,Z3 _,fun _ _=>rfl⟩;have hcd:wr.drew.cell? ⟨w.heap.size,7,none⟩=some (.string t):=hcr;have ba:∀ W2,tH (w.heap.size+1) wr.drew W2→W2.cell? ⟨w.heap.size,7,none⟩=some (.string t):=fun W2 hk=>by
    have:=hk _ _ hr (by simp) (fun c fz e=>by cases e);simp[World.cell?,this]
   have hl7:=hlen 7;rw[List.take_of_length_le (by omega)] at hl7;have hsum:¬ (9223372036854775807<(⟨(dh vs).toArray⟩:ByteArray).size+t.size):=by
    have e1:(⟨(dh vs).toArray⟩:ByteArray).size=(dh vs).length:=by show (dh vs).toArray.size=_;simp
    rw[e1];omega
   have hdr:Below w.heap.size wr wr.drew:=⟨rfl,rfl,rfl,Z3 _,fun _ _=>rfl⟩
   have hcall:=xO w.heap.size (w.heap.size+1) _ _ hI1 (by show _≤wr.heap.size;omega);generalize hS:(⟨(dh vs).toArray⟩:ByteArray)=S at *
   go_region_with (go_at_call 157;refine (hcall).mono ?_;rintro e W2 ⟨rfl,hI2,hb2,hk2⟩;have hc2:=ba W2 hk2)
   all_goals go_wp2
   all_goals go_ret
   all_goals refine ⟨?_,(hbw.trans hdr).trans hb2⟩
   all_goals rw[←hvs,←hS,Ih]
   all_goals rfl
theorem Dl{w:World}{D:aI}{E:aO}{r:aj}{v:Value}(h:aQ w D E (enc r) v):v=.agg #[.int .i64 r.bf,.int .i64 r.no,.int .i64 r.kind,.int .i64 r.ec,.int .i64 r.known,.int .i64 r.eX,.int .i64 r.fm,.string ⟨r.text.toArray⟩] ∧
  (∀ x∈dD r,IntKind.i64.min≤x∧x≤IntKind.i64.max)∧r.text.length≤maxLen:=by
 obtain ⟨cs,h1,h2⟩:=h;have h2':ae w D E (.agg [.agg [.int .i64 r.bf,.int .i64 r.no],.int .i64 r.kind,.int .i64 r.ec,.int .i64 r.known,.agg [.int .i64 r.eX,.int .i64 r.fm],.ah ⟨r.text.toArray⟩]) cs:=h2;simp only[ae,aB] at h2';obtain ⟨_,_,rfl,⟨_,_,rfl,⟨rfl,a1⟩,_,_,rfl,⟨rfl,a2⟩,rfl⟩,_,_,rfl,⟨rfl,a3⟩,_,_,rfl,⟨rfl,a4⟩,_,_,rfl,⟨rfl,a5⟩,_,_,rfl,⟨_,_,rfl,⟨rfl,a6⟩,_,_,rfl,⟨rfl,a7⟩,rfl⟩,_,_,rfl,⟨rfl,a8⟩,rfl⟩:=h2';refine ⟨h1,?_,by simpa[ByteArray.size] using a8⟩;intro x hx;simp only[dD,zx4,List.not_mem_nil,or_false] at hx;rcases hx with rfl | rfl | rfl | rfl | rfl | rfl | rfl <;>assumption
theorem E0(r:aj)(hs:r.text.length≤1000000000000):aM Tryz.prog 131 [enc r] (enc (ak.of (cA r))):=by
 refine ⟨G7,fun w D vs hl hD hv =>?_⟩;have hv':=hv;simp only[al] at hv';obtain ⟨v,rest,cs,rfl,h1,h2,rfl⟩:=hv';obtain ⟨rfl,hb,_⟩:=Dl (fj h1 h2);refine (GO _ _ _ _ _ _ _ ⟨r.text.toArray⟩ w hl hb (by show r.text.toArray.size≤_;simpa using hs)).mono ?_;rintro e w' ⟨rfl,hbl⟩;have hlen:(cA r).length≤1000000001000:=by
  have:∀ l:List Int,(∀ x∈l,IntKind.i64.min≤x∧x≤IntKind.i64.max)→(dh l).length≤22*l.length:=by
   intro l
   induction l with
   |nil=>intro _;simp[dh]
   |cons x l ih =>
    intro h;have h1:=ih fun y hy=>h y (by simp[hy]);have h2:=Lib.itoa_length_le x (h x (by simp)).1 (h x (by simp)).2;simp only[dh] at h1;simp only[dh,List.flatMap_cons,Z1,zz5,zy6];omega
  have h3:=this (dD r) hb;have h4:(dD r).length=7:=rfl;rw[cA,Z1];omega
 exact ⟨_,D,rfl,DH (l:=cA r) (by unfold maxLen;omega),hbl,fun b o hd=>Nat.lt_of_lt_of_le (hD b o hd) hbl.size,fun _ _ h _=>h⟩
end Go.Proofs.YtoffnnjbplgnaaaGreatDoor
namespace Go.Proofs.YtoffnnjbplgnaaaGreatDoor
open Go Go.Abs
open Go.Abs.Enc (enc)
def gb(c:UInt8):Bool := !(decide ((c.toNat:Int)<32)||(decide ((c.toNat:Int)>126)||((c.toNat:Int)==63)))
def gJ(t:List UInt8):Bool:=decide (t.length≤160)&&t.all gb
theorem BJ{t:List UInt8}{i:Nat}(h:i<t.length)(h1:(t.take i).all gb=true):(gb t[i]=true→(t.take (i+1)).all gb=true)∧(gb t[i]=false→t.all gb=false):=by
 refine ⟨fun h2 =>?_,fun h2 =>?_⟩
 ·rw[List.take_succ_eq_append_getElem h,List.all_append,h1];simp[h2]
 ·rw[List.all_eq_false];exact ⟨t[i],List.getElem_mem h,by simp[h2]⟩
theorem kv(t:List UInt8):lQ (enc (ak.of t))=some (.int .i64 (t.length:Int)):=by rw[qB,ak.c8]
theorem oL(t:List UInt8){i:Nat}(h:i<t.length):dX .dp [enc (ak.of t),.int .i64 (i:Int)]=some (.int .u8 (t[i].toNat:Int)):=DT (ak.of t) h
theorem s9(t:List UInt8):lr (enc (ak.of t))=some (t.map enc):=rfl
theorem EZ(t:List UInt8):aM Tryz.prog 130 [enc (ak.of t)] (enc (gJ t)):=by
 refine aM.bL Tryz.func130 G6 Ir JL (t8 rfl) (fun hwf W0 bC E1 =>?_);simp only[x9,Ci,bB];clear hwf;have hl:=kv t;have hsb:=s9 t;rcases q:decide ((t.length:Int)>160)
 rotate_left
 ·have h1:(t.length:Int)>160:=of_decide_eq_true q;rw[show gJ t=false by simp only[gJ];rw[decide_eq_false (by omega)];rfl];have R:=y6 @hl (y6 @q (y6 @bd az))
  repeat' ((first |(with_reducible refine .guard (fun hb =>?_) (fun hb =>?_) <;>try simp only[hb])|refine U.aE (by decide +kernel) rfl fun K hK =>?_|(refine .aA [0,2,4,7,9,10,11,12,24] hK ?_;clear hK K)|(with_reducible refine .done (hK _ ?_);clear hK K)|refine U.of rfl ?_|(with_reducible refine au.aD (fun h =>?_) (fun h =>?_) <;>try simp only[h])) <;>try simp only[aF,R,simprocAttr])
  all_goals clear R
  all_goals rfl
 have h1:¬ (t.length:Int)>160:=of_decide_eq_false q;rw[show gJ t=t.all gb by simp only[gJ];rw[decide_eq_true (by omega)];rfl];have R:=y6 @hl (y6 @hsb (y6 @q (y6 @bd (y6 @ij az))))
 repeat' ((first |(with_reducible refine .guard (fun hb =>?_) (fun hb =>?_) <;>try simp only[hb])|refine aY.dU rfl fun m =>?_|refine U.aE (by decide +kernel) rfl fun K hK =>?_|(refine .aA [0,2,4,7,9,10,11,12,24] hK ?_;clear hK K)|(with_reducible refine .done (hK _ ?_);clear hK K)|refine U.of rfl ?_|(with_reducible refine au.aD (fun h =>?_) (fun h =>?_) <;>try simp only[h])) <;>try simp only[aF,R,simprocAttr])
 all_goals clear R
 refine U.loop (fun i:Nat=>ay [(0,enc (ak.of t)),(9,enc t),(10,.int .i64 t.length),(11,.int .i64 i)] []) (fun i=>i≤t.length∧(t.take i).all gb=true) (fun i=>t.length-i) 0 ⟨Nat.zero_le _,rfl⟩ ?_ ?_
 ·refine bw.rH [9] 9 (x:=.view 9 [] 1 0 t.length) (y:=enc t) rfl (z6 rfl) ?_ ?_ ?_ ?_ ?_ <;>simp[dQ,bU,cj,ct,cq,jh,cg,I.only,bK]
 rintro i ⟨hi,hok⟩;by_cases hlt:i<t.length
 ·have hlc:=eP hlt;have he:=fun A=>fJ (A:=A) 1 hlt rfl;have hw:=eG (i:=i) (by omega);obtain ⟨h2,h3⟩:=BJ hlt hok;generalize t[i]=c at *;rcases q1:decide ((c.toNat:Int)<32)
  rotate_left
  ·rw[h3 (by simp[gb,q1])];have R:=y6 @hl (y6 @hlc (y6 @he (y6 @hw (y6 @q1 (y6 @qC (y6 @bd az))))))
   repeat' ((first |(with_reducible refine .guard (fun hb =>?_) (fun hb =>?_) <;>try simp only[hb])|refine U.aE (by decide +kernel) rfl fun K hK =>?_|(refine .aA [0,2,4,7,9,10,11,12,24] hK ?_;clear hK K)|(with_reducible refine .done (hK _ ?_);clear hK K)|refine U.of rfl ?_|(with_reducible refine au.aD (fun h =>?_) (fun h =>?_) <;>try simp only[h])) <;>try simp only[aF,R,simprocAttr])
   all_goals clear R
   all_goals rfl
  rcases q2:decide ((c.toNat:Int)>126)
  rotate_left
  ·rw[h3 (by simp only[gb,q1,q2];rfl)];have R:=y6 @hl (y6 @hlc (y6 @he (y6 @hw (y6 @q1 (y6 @q2 (y6 @qC (y6 @bd az)))))))
   repeat' ((first |(with_reducible refine .guard (fun hb =>?_) (fun hb =>?_) <;>try simp only[hb])|refine U.aE (by decide +kernel) rfl fun K hK =>?_|(refine .aA [0,2,4,7,9,10,11,12,24] hK ?_;clear hK K)|(with_reducible refine .done (hK _ ?_);clear hK K)|refine U.of rfl ?_|(with_reducible refine au.aD (fun h =>?_) (fun h =>?_) <;>try simp only[h])) <;>try simp only[aF,R,simprocAttr])
   all_goals clear R
   all_goals rfl
  rcases q3:((c.toNat:Int)==63)
  rotate_left
  ·rw[h3 (by simp only[gb,q1,q2,q3];rfl)];have R:=y6 @hl (y6 @hlc (y6 @he (y6 @hw (y6 @q1 (y6 @q2 (y6 @q3 (y6 @qC (y6 @bd az))))))))
   repeat' ((first |(with_reducible refine .guard (fun hb =>?_) (fun hb =>?_) <;>try simp only[hb])|refine U.aE (by decide +kernel) rfl fun K hK =>?_|(refine .aA [0,2,4,7,9,10,11,12,24] hK ?_;clear hK K)|(with_reducible refine .done (hK _ ?_);clear hK K)|refine U.of rfl ?_|(with_reducible refine au.aD (fun h =>?_) (fun h =>?_) <;>try simp only[h])) <;>try simp only[aF,R,simprocAttr])
   all_goals clear R
   all_goals rfl
  have h4:=h2 (by simp only[gb,q1,q2,q3];rfl);have R:=y6 @hl (y6 @hlc (y6 @he (y6 @hw (y6 @q1 (y6 @q2 (y6 @q3 (y6 @qC (y6 @bd az))))))))
  repeat' ((first |(with_reducible refine .guard (fun hb =>?_) (fun hb =>?_) <;>try simp only[hb])|refine U.aE (by decide +kernel) rfl fun K hK =>?_|(refine .aA [0,2,4,7,9,10,11,12,24] hK ?_;clear hK K)|(with_reducible refine .done (hK _ ?_);clear hK K)|refine U.of rfl ?_|(with_reducible refine au.aD (fun h =>?_) (fun h =>?_) <;>try simp only[h])) <;>try simp only[aF,R,simprocAttr])
  all_goals clear R
  refine ⟨i+1,⟨by omega,h4⟩,by omega,?_⟩;clear h2 h3 h4 hok;refine bw.cN ?_ ?_ ?_ ?_ <;>simp[cj,ct,cq,bU,cg,I.only,bK]
 ·have hlc:=fu hlt;have hge:i=t.length:=by omega
  rw[hge,List.take_length] at hok;rw[hok];have R:=y6 @hl (y6 @hlc (y6 @bd az))
  repeat' ((first |(with_reducible refine .guard (fun hb =>?_) (fun hb =>?_) <;>try simp only[hb])|refine U.aE (by decide +kernel) rfl fun K hK =>?_|(refine .aA [0,2,4,7,9,10,11,12,24] hK ?_;clear hK K)|(with_reducible refine .done (hK _ ?_);clear hK K)|refine U.of rfl ?_|(with_reducible refine au.aD (fun h =>?_) (fun h =>?_) <;>try simp only[h])) <;>try simp only[aF,R,simprocAttr])
  all_goals clear R
  all_goals rfl
theorem Fz(t:List UInt8):aM Tryz.prog 86 [enc (ak.of t)] (enc (gJ t)):=by
 refine aM.bL Tryz.func86 H0 Ji KB (t8 rfl) (fun hwf W0 bC E1 =>?_);simp only[yV,C6,bB];clear hwf;have hl:=kv t;rcases q:decide ((t.length:Int)>160)
 rotate_left
 ·have h1:(t.length:Int)>160:=of_decide_eq_true q;rw[show gJ t=false by simp only[gJ];rw[decide_eq_false (by omega)];rfl];have R:=y6 @hl (y6 @q (y6 @bd az))
  repeat' ((first |(with_reducible refine .guard (fun hb =>?_) (fun hb =>?_) <;>try simp only[hb])|refine U.aE (by decide +kernel) rfl fun K hK =>?_|(refine .aA [0,2,3,6,10,28] hK ?_;clear hK K)|(with_reducible refine .done (hK _ ?_);clear hK K)|refine U.of rfl ?_|(with_reducible refine au.aD (fun h =>?_) (fun h =>?_) <;>try simp only[h])) <;>try simp only[aF,R,simprocAttr])
  all_goals clear R
  all_goals rfl
 have h1:¬ (t.length:Int)>160:=of_decide_eq_false q;rw[show gJ t=t.all gb by simp only[gJ];rw[decide_eq_true (by omega)];rfl];have R:=y6 @hl (y6 @q (y6 @bd az))
 repeat' ((first |(with_reducible refine .guard (fun hb =>?_) (fun hb =>?_) <;>try simp only[hb])|refine U.aE (by decide +kernel) rfl fun K hK =>?_|(refine .aA [0,2,3,6,10,28] hK ?_;clear hK K)|(with_reducible refine .done (hK _ ?_);clear hK K)|refine U.of rfl ?_|(with_reducible refine au.aD (fun h =>?_) (fun h =>?_) <;>try simp only[h])) <;>try simp only[aF,R,simprocAttr])
 all_goals clear R
 refine U.loop (fun i:Nat=>ay [(0,enc (ak.of t)),(3,.int .i64 i)] []) (fun i=>i≤t.length∧(t.take i).all gb=true) (fun i=>t.length-i) 0 ⟨Nat.zero_le _,rfl⟩ ?_ ?_
 ·refine bw.cN ?_ ?_ ?_ ?_ <;>simp[cj,ct,cq,bU,cg,I.only,bK]
 rintro i ⟨hi,hok⟩;by_cases hlt:i<t.length
 ·have hlc:=eP hlt;have he:=oL t hlt;have hw:=eG (i:=i) (by omega);obtain ⟨h2,h3⟩:=BJ hlt hok;generalize t[i]=c at *;rcases q1:decide ((c.toNat:Int)<32)
  rotate_left
  ·rw[h3 (by simp[gb,q1])];have R:=y6 @hl (y6 @hlc (y6 @he (y6 @hw (y6 @q1 (y6 @bd az)))))
   repeat' ((first |(with_reducible refine .guard (fun hb =>?_) (fun hb =>?_) <;>try simp only[hb])|refine U.aE (by decide +kernel) rfl fun K hK =>?_|(refine .aA [0,2,3,6,10,28] hK ?_;clear hK K)|(with_reducible refine .done (hK _ ?_);clear hK K)|refine U.of rfl ?_|(with_reducible refine au.aD (fun h =>?_) (fun h =>?_) <;>try simp only[h])) <;>try simp only[aF,R,simprocAttr])
   all_goals clear R
   all_goals rfl
  rcases q2:decide ((c.toNat:Int)>126)
  rotate_left
  ·rw[h3 (by simp only[gb,q1,q2];rfl)];have R:=y6 @hl (y6 @hlc (y6 @he (y6 @hw (y6 @q1 (y6 @q2 (y6 @bd az))))))
   repeat' ((first |(with_reducible refine .guard (fun hb =>?_) (fun hb =>?_) <;>try simp only[hb])|refine U.aE (by decide +kernel) rfl fun K hK =>?_|(refine .aA [0,2,3,6,10,28] hK ?_;clear hK K)|(with_reducible refine .done (hK _ ?_);clear hK K)|refine U.of rfl ?_|(with_reducible refine au.aD (fun h =>?_) (fun h =>?_) <;>try simp only[h])) <;>try simp only[aF,R,simprocAttr])
   all_goals clear R
   all_goals rfl
  rcases q3:((c.toNat:Int)==63)
  rotate_left
  ·rw[h3 (by simp only[gb,q1,q2,q3];rfl)];have R:=y6 @hl (y6 @hlc (y6 @he (y6 @hw (y6 @q1 (y6 @q2 (y6 @q3 (y6 @bd az)))))))
   repeat' ((first |(with_reducible refine .guard (fun hb =>?_) (fun hb =>?_) <;>try simp only[hb])|refine U.aE (by decide +kernel) rfl fun K hK =>?_|(refine .aA [0,2,3,6,10,28] hK ?_;clear hK K)|(with_reducible refine .done (hK _ ?_);clear hK K)|refine U.of rfl ?_|(with_reducible refine au.aD (fun h =>?_) (fun h =>?_) <;>try simp only[h])) <;>try simp only[aF,R,simprocAttr])
   all_goals clear R
   all_goals rfl
  have h4:=h2 (by simp only[gb,q1,q2,q3];rfl);have R:=y6 @hl (y6 @hlc (y6 @he (y6 @hw (y6 @q1 (y6 @q2 (y6 @q3 (y6 @bd az)))))))
  repeat' ((first |(with_reducible refine .guard (fun hb =>?_) (fun hb =>?_) <;>try simp only[hb])|refine U.aE (by decide +kernel) rfl fun K hK =>?_|(refine .aA [0,2,3,6,10,28] hK ?_;clear hK K)|(with_reducible refine .done (hK _ ?_);clear hK K)|refine U.of rfl ?_|(with_reducible refine au.aD (fun h =>?_) (fun h =>?_) <;>try simp only[h])) <;>try simp only[aF,R,simprocAttr])
  all_goals clear R
  refine ⟨i+1,⟨by omega,h4⟩,by omega,?_⟩;clear h2 h3 h4 hok;refine bw.cN ?_ ?_ ?_ ?_ <;>simp[cj,ct,cq,bU,cg,I.only,bK]
 ·have hlc:=fu hlt;have hge:i=t.length:=by omega
  rw[hge,List.take_length] at hok;rw[hok];have R:=y6 @hl (y6 @hlc (y6 @bd az))
  repeat' ((first |(with_reducible refine .guard (fun hb =>?_) (fun hb =>?_) <;>try simp only[hb])|refine U.aE (by decide +kernel) rfl fun K hK =>?_|(refine .aA [0,2,3,6,10,28] hK ?_;clear hK K)|(with_reducible refine .done (hK _ ?_);clear hK K)|refine U.of rfl ?_|(with_reducible refine au.aD (fun h =>?_) (fun h =>?_) <;>try simp only[h])) <;>try simp only[aF,R,simprocAttr])
  all_goals clear R
  all_goals rfl
def oz(r:aj):Bool:=(r.ec==0)&&(decide (r.text=[])&&(iz r.ga&&((r.eX==r.bf)&&decide (r.fm<r.no))))
def gf(r:aj):Bool:=iz r.bE&&(dS 0 40 r.kind&&(dS 0 100000 r.ec&&(dS 0 100000 r.known&&gJ r.text)))
def bg(r:aj):Bool:=gf r&&(if r.kind=0 then oz r else decide (r.ga=⟨0,0⟩))
theorem iq:(I.ah ⟨#[]⟩)=enc (ak.of []):=rfl
theorem py:(I.agg [.int .i64 0,.int .i64 0])=enc (⟨0,0⟩:Item):=rfl
theorem lu(a b:List UInt8):bJ .eql (enc (ak.of a)) (enc (ak.of b))=some (.bool (decide (a=b))):=by rw[wk];simp only[ak.sC]
theorem gO(a b:List UInt8):bJ .neq (enc (ak.of a)) (enc (ak.of b))=some (.bool (!decide (a=b))):=by rw[wm];simp only[ak.sC]
theorem o7(r:aj):aM Tryz.prog 80 [enc r] (enc (bg r)):=by
 refine aM.bL Tryz.func80 HU Jc Ku (t8 rfl) (fun hwf W0 bC E1 =>?_);simp only[c80,C0,bB];clear hwf;have f1:=w0 r.bE;have f2:=mg r.kind 0 40;have f3:=wY r.ec;have f4:=wY r.known;have f5:=EZ r.text;have f6:=w0 r.ga;cases q1:iz r.bE
 ·rw[q1] at f1;rw[show bg r=false by simp only[bg,gf,q1,Bool.false_and]];have R:=y6 @q1 (y6 @bd az)
  repeat' ((first |(with_reducible refine .guard (fun hb =>?_) (fun hb =>?_) <;>try simp only[hb])|refine U.aE (by decide +kernel) rfl fun K hK =>?_|refine .flat _ (f1) rfl ?_|refine .flat _ (f2) rfl ?_|refine .flat _ (f3) rfl ?_|refine .flat _ (f4) rfl ?_|refine .flat _ (f5) rfl ?_|(refine .aA [0,1,2,30,33] hK ?_;clear hK K)|(with_reducible refine .done (hK _ ?_);clear hK K)|refine U.of rfl ?_|(with_reducible refine au.aD (fun h =>?_) (fun h =>?_) <;>try simp only[h])) <;>try simp only[aF,R,simprocAttr])
  all_goals clear R
  all_goals rfl
 rw[q1] at f1;cases q2:dS 0 40 r.kind
 ·rw[q2] at f2;rw[show bg r=false by simp only[bg,gf,q1,q2,Bool.false_and,Bool.and_false]];have R:=y6 @bd az
  repeat' ((first |(with_reducible refine .guard (fun hb =>?_) (fun hb =>?_) <;>try simp only[hb])|refine U.aE (by decide +kernel) rfl fun K hK =>?_|refine .flat _ (f1) rfl ?_|refine .flat _ (f2) rfl ?_|refine .flat _ (f3) rfl ?_|refine .flat _ (f4) rfl ?_|refine .flat _ (f5) rfl ?_|(refine .aA [0,1,2,30,33] hK ?_;clear hK K)|(with_reducible refine .done (hK _ ?_);clear hK K)|refine U.of rfl ?_|(with_reducible refine au.aD (fun h =>?_) (fun h =>?_) <;>try simp only[h])) <;>try simp only[aF,R,simprocAttr])
  all_goals clear R
  all_goals rfl
 rw[q2] at f2;cases q3:dS 0 100000 r.ec
 ·rw[q3] at f3;rw[show bg r=false by simp only[bg,gf,q1,q2,q3,Bool.false_and,Bool.and_false]];have R:=y6 @bd az
  repeat' ((first |(with_reducible refine .guard (fun hb =>?_) (fun hb =>?_) <;>try simp only[hb])|refine U.aE (by decide +kernel) rfl fun K hK =>?_|refine .flat _ (f1) rfl ?_|refine .flat _ (f2) rfl ?_|refine .flat _ (f3) rfl ?_|refine .flat _ (f4) rfl ?_|refine .flat _ (f5) rfl ?_|(refine .aA [0,1,2,30,33] hK ?_;clear hK K)|(with_reducible refine .done (hK _ ?_);clear hK K)|refine U.of rfl ?_|(with_reducible refine au.aD (fun h =>?_) (fun h =>?_) <;>try simp only[h])) <;>try simp only[aF,R,simprocAttr])
  all_goals clear R
  all_goals rfl
 rw[q3] at f3;cases q4:dS 0 100000 r.known
 ·rw[q4] at f4;rw[show bg r=false by simp only[bg,gf,q1,q2,q3,q4,Bool.false_and,Bool.and_false]];have R:=y6 @bd az
  repeat' ((first |(with_reducible refine .guard (fun hb =>?_) (fun hb =>?_) <;>try simp only[hb])|refine U.aE (by decide +kernel) rfl fun K hK =>?_|refine .flat _ (f1) rfl ?_|refine .flat _ (f2) rfl ?_|refine .flat _ (f3) rfl ?_|refine .flat _ (f4) rfl ?_|refine .flat _ (f5) rfl ?_|(refine .aA [0,1,2,30,33] hK ?_;clear hK K)|(with_reducible refine .done (hK _ ?_);clear hK K)|refine U.of rfl ?_|(with_reducible refine au.aD (fun h =>?_) (fun h =>?_) <;>try simp only[h])) <;>try simp only[aF,R,simprocAttr])
  all_goals clear R
  all_goals rfl
 rw[q4] at f4;cases q5:gJ r.text
 ·rw[q5] at f5;rw[show bg r=false by simp only[bg,gf,q1,q2,q3,q4,q5,Bool.false_and,Bool.and_false]];have R:=y6 @bd az
  repeat' ((first |(with_reducible refine .guard (fun hb =>?_) (fun hb =>?_) <;>try simp only[hb])|refine U.aE (by decide +kernel) rfl fun K hK =>?_|refine .flat _ (f1) rfl ?_|refine .flat _ (f2) rfl ?_|refine .flat _ (f3) rfl ?_|refine .flat _ (f4) rfl ?_|refine .flat _ (f5) rfl ?_|(refine .aA [0,1,2,30,33] hK ?_;clear hK K)|(with_reducible refine .done (hK _ ?_);clear hK K)|refine U.of rfl ?_|(with_reducible refine au.aD (fun h =>?_) (fun h =>?_) <;>try simp only[h])) <;>try simp only[aF,R,simprocAttr])
  all_goals clear R
  all_goals rfl
 rw[q5] at f5;have hH:gf r=true:=by simp only[gf,q1,q2,q3,q4,q5,Bool.and_self]
 cases k:(r.kind==0)
 ·rw[show bg r=decide (r.ga=⟨0,0⟩) by simp only[bg,hH,Bool.true_and];rw[if_neg (by simpa using k)]];have R:=y6 @k (y6 @py (y6 @bd az))
  repeat' ((first |(with_reducible refine .guard (fun hb =>?_) (fun hb =>?_) <;>try simp only[hb])|refine U.aE (by decide +kernel) rfl fun K hK =>?_|refine .flat _ (f1) rfl ?_|refine .flat _ (f2) rfl ?_|refine .flat _ (f3) rfl ?_|refine .flat _ (f4) rfl ?_|refine .flat _ (f5) rfl ?_|(refine .aA [0,1,2,30,33] hK ?_;clear hK K)|(with_reducible refine .done (hK _ ?_);clear hK K)|refine U.of rfl ?_|(with_reducible refine au.aD (fun h =>?_) (fun h =>?_) <;>try simp only[h])) <;>try simp only[aF,R,simprocAttr])
  all_goals clear R
  all_goals rfl
 rw[show bg r=oz r by simp only[bg,hH,Bool.true_and];rw[if_pos (by simpa using k)]];simp only[oz];cases w1:(r.ec==0)
 ·have R:=y6 @k (y6 @w1 (y6 @iq (y6 @lu (y6 @bd az))))
  repeat' ((first |(with_reducible refine .guard (fun hb =>?_) (fun hb =>?_) <;>try simp only[hb])|refine U.aE (by decide +kernel) rfl fun K hK =>?_|refine .flat _ (f1) rfl ?_|refine .flat _ (f2) rfl ?_|refine .flat _ (f3) rfl ?_|refine .flat _ (f4) rfl ?_|refine .flat _ (f5) rfl ?_|refine .flat _ (f6) rfl ?_|(refine .aA [0,1,2,30,33] hK ?_;clear hK K)|(with_reducible refine .done (hK _ ?_);clear hK K)|refine U.of rfl ?_|(with_reducible refine au.aD (fun h =>?_) (fun h =>?_) <;>try simp only[h])) <;>try simp only[aF,R,simprocAttr])
  all_goals clear R
  all_goals rfl
 cases w2:decide (r.text=[])
 ·have R:=y6 @k (y6 @w1 (y6 @w2 (y6 @iq (y6 @lu (y6 @bd az)))))
  repeat' ((first |(with_reducible refine .guard (fun hb =>?_) (fun hb =>?_) <;>try simp only[hb])|refine U.aE (by decide +kernel) rfl fun K hK =>?_|refine .flat _ (f1) rfl ?_|refine .flat _ (f2) rfl ?_|refine .flat _ (f3) rfl ?_|refine .flat _ (f4) rfl ?_|refine .flat _ (f5) rfl ?_|refine .flat _ (f6) rfl ?_|(refine .aA [0,1,2,30,33] hK ?_;clear hK K)|(with_reducible refine .done (hK _ ?_);clear hK K)|refine U.of rfl ?_|(with_reducible refine au.aD (fun h =>?_) (fun h =>?_) <;>try simp only[h])) <;>try simp only[aF,R,simprocAttr])
  all_goals clear R
  all_goals rfl
 cases w3:iz r.ga
 ·rw[w3] at f6;have R:=y6 @k (y6 @w1 (y6 @w2 (y6 @iq (y6 @lu (y6 @bd az)))))
  repeat' ((first |(with_reducible refine .guard (fun hb =>?_) (fun hb =>?_) <;>try simp only[hb])|refine U.aE (by decide +kernel) rfl fun K hK =>?_|refine .flat _ (f1) rfl ?_|refine .flat _ (f2) rfl ?_|refine .flat _ (f3) rfl ?_|refine .flat _ (f4) rfl ?_|refine .flat _ (f5) rfl ?_|refine .flat _ (f6) rfl ?_|(refine .aA [0,1,2,30,33] hK ?_;clear hK K)|(with_reducible refine .done (hK _ ?_);clear hK K)|refine U.of rfl ?_|(with_reducible refine au.aD (fun h =>?_) (fun h =>?_) <;>try simp only[h])) <;>try simp only[aF,R,simprocAttr])
  all_goals clear R
  all_goals rfl
 rw[w3] at f6;cases w4:(r.eX==r.bf)
 ·have R:=y6 @k (y6 @w1 (y6 @w2 (y6 @w4 (y6 @iq (y6 @lu (y6 @bd az))))))
  repeat' ((first |(with_reducible refine .guard (fun hb =>?_) (fun hb =>?_) <;>try simp only[hb])|refine U.aE (by decide +kernel) rfl fun K hK =>?_|refine .flat _ (f1) rfl ?_|refine .flat _ (f2) rfl ?_|refine .flat _ (f3) rfl ?_|refine .flat _ (f4) rfl ?_|refine .flat _ (f5) rfl ?_|refine .flat _ (f6) rfl ?_|(refine .aA [0,1,2,30,33] hK ?_;clear hK K)|(with_reducible refine .done (hK _ ?_);clear hK K)|refine U.of rfl ?_|(with_reducible refine au.aD (fun h =>?_) (fun h =>?_) <;>try simp only[h])) <;>try simp only[aF,R,simprocAttr])
  all_goals clear R
  all_goals rfl
 have R:=y6 @k (y6 @w1 (y6 @w2 (y6 @w4 (y6 @iq (y6 @lu (y6 @bd az))))))
 repeat' ((first |(with_reducible refine .guard (fun hb =>?_) (fun hb =>?_) <;>try simp only[hb])|refine U.aE (by decide +kernel) rfl fun K hK =>?_|refine .flat _ (f1) rfl ?_|refine .flat _ (f2) rfl ?_|refine .flat _ (f3) rfl ?_|refine .flat _ (f4) rfl ?_|refine .flat _ (f5) rfl ?_|refine .flat _ (f6) rfl ?_|(refine .aA [0,1,2,30,33] hK ?_;clear hK K)|(with_reducible refine .done (hK _ ?_);clear hK K)|refine U.of rfl ?_|(with_reducible refine au.aD (fun h =>?_) (fun h =>?_) <;>try simp only[h])) <;>try simp only[aF,R,simprocAttr])
 all_goals clear R
 all_goals rfl
def iN(r:aj):Int:=if bg r=true then 0 else 80
def dm(t:List UInt8):List (List UInt8):=(jf 10 true t).dropLast
theorem vl{t:List UInt8}(h:∀ b∈t,b≠10):dm t=[]:=by rw[dm,zy h];rfl
theorem V1{x:List UInt8}(y:List UInt8)(h:∀ b∈x,b≠10):dm (x++10::y)=(x++[10])::dm y:=by
 rw[dm,zx y h,if_pos rfl,List.dropLast_cons_of_ne_nil (KO 10 true y)];rfl
def gh(b6:Int→List UInt8→Option (aj×Int))(nx:List aj→aj→Bool):List aj→Int→Nat→List (List UInt8)→List aj×Nat
 |out,_,size,[]=>(out,size)
 |out,s,size,x::t=>match b6 s x with
  |none=>(out,size)
  |some q=>if nx out q.1=true then gh b6 nx (out++[q.1]) q.2 (size+x.length) t else (out,size)
def eS:Int→List aj→List UInt8
 |_,[]=>[]
 |s,r::l=>cV s r++eS (cO s (cA r)) l
def eA:Int→List aj→Int
 |s,[]=>s
 |s,r::l=>eA (cO s (cA r)) l
theorem Ew:∀ (a b:List aj) (s:Int),eS s (a++b)=eS s a++eS (eA s a) b
 | [],_,_=>rfl
 |r::a,b,s=>by simp only[zz4,eS,eA,Ew a b,zz0]
theorem Es:∀ (a b:List aj) (s:Int),eA s (a++b)=eA (eA s a) b
 | [],_,_=>rfl
 |r::a,b,s=>by simp only[zz4,eA,Es a b]
theorem Et:∀ (a:List aj) {s:Int},0≤s∧s<1000003→0≤eA s a∧eA s a<1000003
 | [],_,h=>h
 |_::a,_,h=>Et a (mf h _)
theorem wP(a:List aj)(r:aj)(s:Int):eS s (a++[r])=eS s a++cV (eA s a) r∧eA s (a++[r])=cO (eA s a) (cA r):=by
 rw[Ew,Es];simp only[eS,eA,List.append_nil,and_self]
def ja(ok:aj→Bool)(nx:List aj→aj→Bool):List aj→List aj→Prop
 |_,[]=>True
 |out,r::l=>ok r=true∧nx out r=true∧ja ok nx (out++[r]) l
def gz(ok:aj→Bool)(nx:List aj→aj→Bool)(t:List UInt8):List aj×List UInt8:=((gh (dE ok) nx [] 1 0 (dm t)).1,t.take (gh (dE ok) nx [] 1 0 (dm t)).2)
def oA(ok:aj→Bool)(nx:List aj→aj→Bool)(a b:List UInt8):List aj×List UInt8 :=
 if (gz ok nx a).1.length<(gz ok nx b).1.length then gz ok nx b else gz ok nx a
def fg(l:List aj)(m:Int):Nat:=l.countP fun r=>decide (r.bf=m)
def nI(a b:aj):Bool:=decide (a.bf<b.bf∨(a.bf=b.bf∧a.no<b.no))
def jx(l:List aj)(r:aj):Bool:=match l.getLast? with
 |none=>decide ((r.bf=-1∧r.no=1)∨(-1<r.bf∧r.no=0))
 |some a=>decide ((r.bf=a.bf∧r.no=a.no+1)∨(a.bf<r.bf∧r.no=0))
def wG(l:List aj)(r:aj):Bool:=(match l.getLast? with
 |none=>true
 |some a=>nI a r)&&decide ((fg l r.bf:Int)=r.no)
def ik(aR:List aj→aj→Bool):List aj→List aj→Bool
 |_,[]=>true
 |out,r::l=>aR out r&&ik aR (out++[r]) l
def oV(l:List aj):Prop:=match l.getLast? with
 |none=>True
 |some a=>(fg l a.bf:Int)=a.no+1∧∀ m,a.bf<m→fg l m=0
theorem pw(l:List aj)(r:aj)(m:Int):fg (l++[r]) m=fg l m+if r.bf=m then 1 else 0:=by
 rw[fg,List.countP_append,←fg,List.countP_cons,List.countP_nil];simp
theorem YU{l:List aj}(h:oV l){r:aj}(hr:0≤r.bf∧0≤r.no):jx l r=wG l r∧(jx l r=true→oV (l++[r])):=by
 rw[oV] at h;have hl:(l++[r]).getLast?=some r:=by rw[List.getLast?_append];rfl
 rw[oV,hl,jx,wG];cases e:l.getLast? with
 |none =>
  have hnil:l=[]:=List.getLast?_eq_none_iff.1 e;subst hnil;have c0:∀ m,fg [] m=0:=fun _=>rfl;have c1:=c0 r.bf;simp only[Bool.true_and];refine ⟨?_,?_⟩
  ·rw[Bool.eq_iff_iff,decide_eq_true_iff,decide_eq_true_iff];constructor
   ·intro h;rcases h with h | h <;>omega
   ·intro h;right;omega
  ·intro h;rw[decide_eq_true_eq] at h;refine ⟨by rw[pw,if_pos rfl];omega,fun m hm =>?_⟩;rw[pw,if_neg (by omega),c0]
 |some a =>
  rw[e] at h;obtain ⟨h1,h2⟩:=h;simp only;refine ⟨?_,?_⟩
  ·rw[nI,Bool.eq_iff_iff,Z0,decide_eq_true_eq,decide_eq_true_eq,decide_eq_true_eq];rcases Int.lt_trichotomy a.bf r.bf with c | c | c
   ·have:=h2 r.bf c;constructor
    ·intro k;exact ⟨.inl c,by omega⟩
    ·intro k;right;omega
   ·rw[←c];constructor
    ·intro k;exact ⟨.inr ⟨rfl,by omega⟩,by omega⟩
    ·intro k;left;omega
   ·constructor
    ·intro k;omega
    ·intro k;omega
  ·intro k;rw[decide_eq_true_eq] at k;rw[pw,if_pos rfl];refine ⟨?_,fun m hm =>?_⟩
   ·rcases k with k | k
    ·rw[k.1];omega
    ·have:=h2 r.bf k.1;omega
   ·rw[pw,if_neg (by omega),h2 m (by omega)]
theorem xP:∀ (l out:List aj),oV out→(∀ r∈l,0≤r.bf∧0≤r.no)→ik jx out l=true→out.Pairwise (fun a b=>nI a b=true)→(out++l).Pairwise (fun a b=>nI a b=true)
 | [],out,_,_,_,h=>by simpa using h
 |r::l,out,h,hr,hb,hp=>by
  simp only[ik,Z0] at hb;obtain ⟨e,k⟩:=YU h (hr r (by simp));have:=xP l (out++[r]) (k hb.1) (fun x hx=>hr x (by simp[hx])) hb.2 (by
   rw[List.pairwise_append];refine ⟨hp,by simp,fun a ha b hb' =>?_⟩;rw[List.mem_singleton.1 hb'];have hs:=hb.1;rw[e,wG,Z0] at hs;have hne:out≠[]:=fun k=>by rw[k] at ha;cases ha
   have hlast:=List.getLast?_eq_some_getLast hne;rw[hlast] at hs;have h1:=hs.1;have hcat:=List.dropLast_concat_getLast hne;rw[←hcat] at ha hp;rcases zx0.1 ha with ha | ha
   ·have h2:=(List.pairwise_append.1 hp).2.2 a ha _ (List.mem_singleton.2 rfl);simp only[nI,decide_eq_true_eq] at h1 h2 ⊢;omega
   ·rw[List.mem_singleton.1 ha];exact h1)
  rwa [zz0,List.singleton_append] at this
def de(out:List aj)(r:aj):Bool:=decide (out.length<60)&&decide ((fg out r.bf:Int)=r.no)
theorem ja.len{ok:aj→Bool} : ∀ {l out:List aj},out.length≤60→ja ok de out l→out.length+l.length≤60
 | [],out,h,_=>by simpa using h
 |r::l,out,h,hw=>by
  have hn:=hw.2.1;simp only[de,Z0,decide_eq_true_eq] at hn;have:=ja.len (out:=out++[r]) (by simp;omega) hw.2.2;simp only[Z1,zz5,zy6] at this ⊢;omega
theorem ja.ok{ok:aj→Bool}{nx:List aj→aj→Bool} : ∀ {l out:List aj},ja ok nx out l→∀ r∈l,ok r=true
 | [],_,_,r,h=>by cases h
 |_::_,_,hw,r,h=>by
  rcases zx4.1 h with rfl | h
  ·exact hw.1
  ·exact ja.ok hw.2.2 r h
theorem mz{lo hi n:Int} : dS lo hi n=true↔lo≤n∧n≤hi:=by simp[dS]
theorem BG{x:Item} : iz x=true↔(0≤x.bf∧x.bf≤5)∧0≤x.no∧x.no≤9999:=by simp[iz,mz]
theorem qa{r:aj}(h:bg r=true):gf r=true:=by
 simp only[bg,Z0] at h;exact h.1
theorem p9{r:aj}(h:gf r=true):(0≤r.bf∧r.bf≤5)∧(0≤r.no∧r.no≤9999)∧(0≤r.kind∧r.kind≤40)∧(0≤r.ec∧r.ec≤100000)∧(0≤r.known∧r.known≤100000)∧gJ r.text=true:=by
 simp only[gf,BG,mz,Z0] at h;exact ⟨h.1.1,h.1.2,h.2.1,h.2.2.1,h.2.2.2.1,h.2.2.2.2⟩
theorem Xi{r:aj}(h:bg r=true):(0≤r.eX∧r.eX≤5)∧(0≤r.fm∧r.fm≤9999):=by
 simp only[bg,Z0] at h;obtain ⟨_,h⟩:=h;split at h
 ·simp only[oz,BG,Z0] at h;exact h.2.2.1
 ·simp only[decide_eq_true_eq,aj.ga,Item.mk.injEq] at h;omega
theorem qb{r:aj}(h:bg r=true):∀ n∈dD r,0≤n∧n<100000000:=by
 obtain ⟨a1,a2,a3,a4,a5,_⟩:=p9 (qa h);obtain ⟨a6,a7⟩:=Xi h;intro n hn;simp only[dD,zx4,List.not_mem_nil,or_false] at hn;rcases hn with rfl | rfl | rfl | rfl | rfl | rfl | rfl <;>omega
theorem Xn{t:List UInt8}(h:gJ t=true):t.length≤160:=by
 simp only[gJ,Z0,decide_eq_true_eq] at h;exact h.1
theorem sE{r:aj}(h:bg r=true):r.text.length≤160:=Xn (p9 (qa h)).2.2.2.2.2
theorem xg(r:aj):aM Tryz.prog 34 [enc r] (enc (iN r)):=by
 refine aM.bL Tryz.func34 HF IZ Kg (t8 rfl) (fun hwf W0 bC E1 =>?_);simp only[yH,CN,bB];clear hwf;have f1:=xn r.bE;have f2:=lD r.kind 0 40;have f3:=lD r.ec 0 100000;have f4:=lD r.known 0 100000;have f5:=Fz r.text;have f6:=xn r.ga;have no:bg r=false→iN r=80:=fun h=>by simp[iN,h]
 have ye:bg r=true→iN r=0:=fun h=>by simp[iN,h]
 cases q1:iz r.bE
 ·rw[q1] at f1;rw[no (by simp only[bg,gf,q1,Bool.false_and])];have R:=y6 @q1 (y6 @bd az)
  repeat' ((first |(with_reducible refine .guard (fun hb =>?_) (fun hb =>?_) <;>try simp only[hb])|refine U.aE (by decide +kernel) rfl fun K hK =>?_|refine .flat _ (f1) rfl ?_|refine .flat _ (f2) rfl ?_|refine .flat _ (f3) rfl ?_|refine .flat _ (f4) rfl ?_|refine .flat _ (f5) rfl ?_|(refine .aA [0,1,2,30,33,65,69] hK ?_;clear hK K)|(with_reducible refine .done (hK _ ?_);clear hK K)|refine U.of rfl ?_|(with_reducible refine au.aD (fun h =>?_) (fun h =>?_) <;>try simp only[h])) <;>try simp only[aF,R,simprocAttr])
  all_goals clear R
  all_goals rfl
 rw[q1] at f1;cases q2:dS 0 40 r.kind
 ·rw[q2] at f2;rw[no (by simp only[bg,gf,q1,q2,Bool.false_and,Bool.and_false])];have R:=y6 @bd az
  repeat' ((first |(with_reducible refine .guard (fun hb =>?_) (fun hb =>?_) <;>try simp only[hb])|refine U.aE (by decide +kernel) rfl fun K hK =>?_|refine .flat _ (f1) rfl ?_|refine .flat _ (f2) rfl ?_|refine .flat _ (f3) rfl ?_|refine .flat _ (f4) rfl ?_|refine .flat _ (f5) rfl ?_|(refine .aA [0,1,2,30,33,65,69] hK ?_;clear hK K)|(with_reducible refine .done (hK _ ?_);clear hK K)|refine U.of rfl ?_|(with_reducible refine au.aD (fun h =>?_) (fun h =>?_) <;>try simp only[h])) <;>try simp only[aF,R,simprocAttr])
  all_goals clear R
  all_goals rfl
 rw[q2] at f2;cases q3:dS 0 100000 r.ec
 ·rw[q3] at f3;rw[no (by simp only[bg,gf,q1,q2,q3,Bool.false_and,Bool.and_false])];have R:=y6 @bd az
  repeat' ((first |(with_reducible refine .guard (fun hb =>?_) (fun hb =>?_) <;>try simp only[hb])|refine U.aE (by decide +kernel) rfl fun K hK =>?_|refine .flat _ (f1) rfl ?_|refine .flat _ (f2) rfl ?_|refine .flat _ (f3) rfl ?_|refine .flat _ (f4) rfl ?_|refine .flat _ (f5) rfl ?_|(refine .aA [0,1,2,30,33,65,69] hK ?_;clear hK K)|(with_reducible refine .done (hK _ ?_);clear hK K)|refine U.of rfl ?_|(with_reducible refine au.aD (fun h =>?_) (fun h =>?_) <;>try simp only[h])) <;>try simp only[aF,R,simprocAttr])
  all_goals clear R
  all_goals rfl
 rw[q3] at f3;cases q4:dS 0 100000 r.known
 ·rw[q4] at f4;rw[no (by simp only[bg,gf,q1,q2,q3,q4,Bool.false_and,Bool.and_false])];have R:=y6 @bd az
  repeat' ((first |(with_reducible refine .guard (fun hb =>?_) (fun hb =>?_) <;>try simp only[hb])|refine U.aE (by decide +kernel) rfl fun K hK =>?_|refine .flat _ (f1) rfl ?_|refine .flat _ (f2) rfl ?_|refine .flat _ (f3) rfl ?_|refine .flat _ (f4) rfl ?_|refine .flat _ (f5) rfl ?_|(refine .aA [0,1,2,30,33,65,69] hK ?_;clear hK K)|(with_reducible refine .done (hK _ ?_);clear hK K)|refine U.of rfl ?_|(with_reducible refine au.aD (fun h =>?_) (fun h =>?_) <;>try simp only[h])) <;>try simp only[aF,R,simprocAttr])
  all_goals clear R
  all_goals rfl
 rw[q4] at f4;cases q5:gJ r.text
 ·rw[q5] at f5;rw[no (by simp only[bg,gf,q1,q2,q3,q4,q5,Bool.false_and,Bool.and_false])];have R:=y6 @bd az
  repeat' ((first |(with_reducible refine .guard (fun hb =>?_) (fun hb =>?_) <;>try simp only[hb])|refine U.aE (by decide +kernel) rfl fun K hK =>?_|refine .flat _ (f1) rfl ?_|refine .flat _ (f2) rfl ?_|refine .flat _ (f3) rfl ?_|refine .flat _ (f4) rfl ?_|refine .flat _ (f5) rfl ?_|(refine .aA [0,1,2,30,33,65,69] hK ?_;clear hK K)|(with_reducible refine .done (hK _ ?_);clear hK K)|refine U.of rfl ?_|(with_reducible refine au.aD (fun h =>?_) (fun h =>?_) <;>try simp only[h])) <;>try simp only[aF,R,simprocAttr])
  all_goals clear R
  all_goals rfl
 rw[q5] at f5;have hH:gf r=true:=by simp only[gf,q1,q2,q3,q4,q5,Bool.and_self]
 cases k:(r.kind==0)
 ·cases z:decide (r.ga=⟨0,0⟩)
  ·rw[no (by simp only[bg,hH,Bool.true_and];rw[if_neg (by simpa using k)];exact z)];have R:=y6 @k (y6 @z (y6 @py (y6 @bd az)))
   repeat' ((first |(with_reducible refine .guard (fun hb =>?_) (fun hb =>?_) <;>try simp only[hb])|refine U.aE (by decide +kernel) rfl fun K hK =>?_|refine .flat _ (f1) rfl ?_|refine .flat _ (f2) rfl ?_|refine .flat _ (f3) rfl ?_|refine .flat _ (f4) rfl ?_|refine .flat _ (f5) rfl ?_|(refine .aA [0,1,2,30,33,65,69] hK ?_;clear hK K)|(with_reducible refine .done (hK _ ?_);clear hK K)|refine U.of rfl ?_|(with_reducible refine au.aD (fun h =>?_) (fun h =>?_) <;>try simp only[h])) <;>try simp only[aF,R,simprocAttr])
   all_goals clear R
   all_goals rfl
  ·rw[ye (by simp only[bg,hH,Bool.true_and];rw[if_neg (by simpa using k)];exact z)];have R:=y6 @k (y6 @z (y6 @py (y6 @bd az)))
   repeat' ((first |(with_reducible refine .guard (fun hb =>?_) (fun hb =>?_) <;>try simp only[hb])|refine U.aE (by decide +kernel) rfl fun K hK =>?_|refine .flat _ (f1) rfl ?_|refine .flat _ (f2) rfl ?_|refine .flat _ (f3) rfl ?_|refine .flat _ (f4) rfl ?_|refine .flat _ (f5) rfl ?_|(refine .aA [0,1,2,30,33,65,69] hK ?_;clear hK K)|(with_reducible refine .done (hK _ ?_);clear hK K)|refine U.of rfl ?_|(with_reducible refine au.aD (fun h =>?_) (fun h =>?_) <;>try simp only[h])) <;>try simp only[aF,R,simprocAttr])
   all_goals clear R
   all_goals rfl
 have hK:bg r=oz r:=by simp only[bg,hH,Bool.true_and];rw[if_pos (by simpa using k)]
 simp only[oz] at hK;cases w1:(r.ec==0)
 ·have w1':(r.ec != 0)=true:=by simp[bne,w1]
  rw[no (by rw[hK,w1];rfl)];have R:=y6 @k (y6 @w1' (y6 @iq (y6 @gO (y6 @bd az))))
  repeat' ((first |(with_reducible refine .guard (fun hb =>?_) (fun hb =>?_) <;>try simp only[hb])|refine U.aE (by decide +kernel) rfl fun K hK =>?_|refine .flat _ (f1) rfl ?_|refine .flat _ (f2) rfl ?_|refine .flat _ (f3) rfl ?_|refine .flat _ (f4) rfl ?_|refine .flat _ (f5) rfl ?_|refine .flat _ (f6) rfl ?_|(refine .aA [0,1,2,30,33,65,69] hK ?_;clear hK K)|(with_reducible refine .done (hK _ ?_);clear hK K)|refine U.of rfl ?_|(with_reducible refine au.aD (fun h =>?_) (fun h =>?_) <;>try simp only[h])) <;>try simp only[aF,R,simprocAttr])
  all_goals clear R
  all_goals rfl
 have w1':(r.ec != 0)=false:=by simp[bne,w1]
 cases w2:decide (r.text=[])
 ·rw[no (by rw[hK,w1,w2];rfl)];have R:=y6 @k (y6 @w1' (y6 @w2 (y6 @iq (y6 @gO (y6 @bd az)))))
  repeat' ((first |(with_reducible refine .guard (fun hb =>?_) (fun hb =>?_) <;>try simp only[hb])|refine U.aE (by decide +kernel) rfl fun K hK =>?_|refine .flat _ (f1) rfl ?_|refine .flat _ (f2) rfl ?_|refine .flat _ (f3) rfl ?_|refine .flat _ (f4) rfl ?_|refine .flat _ (f5) rfl ?_|refine .flat _ (f6) rfl ?_|(refine .aA [0,1,2,30,33,65,69] hK ?_;clear hK K)|(with_reducible refine .done (hK _ ?_);clear hK K)|refine U.of rfl ?_|(with_reducible refine au.aD (fun h =>?_) (fun h =>?_) <;>try simp only[h])) <;>try simp only[aF,R,simprocAttr])
  all_goals clear R
  all_goals rfl
 cases w3:iz r.ga
 ·rw[w3] at f6;rw[no (by rw[hK,w1,w2,w3];rfl)];have R:=y6 @k (y6 @w1' (y6 @w2 (y6 @iq (y6 @gO (y6 @bd az)))))
  repeat' ((first |(with_reducible refine .guard (fun hb =>?_) (fun hb =>?_) <;>try simp only[hb])|refine U.aE (by decide +kernel) rfl fun K hK =>?_|refine .flat _ (f1) rfl ?_|refine .flat _ (f2) rfl ?_|refine .flat _ (f3) rfl ?_|refine .flat _ (f4) rfl ?_|refine .flat _ (f5) rfl ?_|refine .flat _ (f6) rfl ?_|(refine .aA [0,1,2,30,33,65,69] hK ?_;clear hK K)|(with_reducible refine .done (hK _ ?_);clear hK K)|refine U.of rfl ?_|(with_reducible refine au.aD (fun h =>?_) (fun h =>?_) <;>try simp only[h])) <;>try simp only[aF,R,simprocAttr])
  all_goals clear R
  all_goals rfl
 rw[w3] at f6;cases w4:(r.eX==r.bf)
 ·have w4':(r.eX != r.bf)=true:=by simp[bne,w4]
  rw[no (by rw[hK,w1,w2,w3,w4];rfl)];have R:=y6 @k (y6 @w1' (y6 @w2 (y6 @w4' (y6 @iq (y6 @gO (y6 @bd az))))))
  repeat' ((first |(with_reducible refine .guard (fun hb =>?_) (fun hb =>?_) <;>try simp only[hb])|refine U.aE (by decide +kernel) rfl fun K hK =>?_|refine .flat _ (f1) rfl ?_|refine .flat _ (f2) rfl ?_|refine .flat _ (f3) rfl ?_|refine .flat _ (f4) rfl ?_|refine .flat _ (f5) rfl ?_|refine .flat _ (f6) rfl ?_|(refine .aA [0,1,2,30,33,65,69] hK ?_;clear hK K)|(with_reducible refine .done (hK _ ?_);clear hK K)|refine U.of rfl ?_|(with_reducible refine au.aD (fun h =>?_) (fun h =>?_) <;>try simp only[h])) <;>try simp only[aF,R,simprocAttr])
  all_goals clear R
  all_goals rfl
 have w4':(r.eX != r.bf)=false:=by simp[bne,w4]
 cases w5:decide (r.fm<r.no)
 ·have w5':decide (r.fm≥r.no)=true:=by rw[decide_eq_false_iff_not] at w5;exact decide_eq_true (by omega)
  rw[no (by rw[hK,w1,w2,w3,w4,w5];rfl)];have R:=y6 @k (y6 @w1' (y6 @w2 (y6 @w4' (y6 @w5' (y6 @iq (y6 @gO (y6 @bd az)))))))
  repeat' ((first |(with_reducible refine .guard (fun hb =>?_) (fun hb =>?_) <;>try simp only[hb])|refine U.aE (by decide +kernel) rfl fun K hK =>?_|refine .flat _ (f1) rfl ?_|refine .flat _ (f2) rfl ?_|refine .flat _ (f3) rfl ?_|refine .flat _ (f4) rfl ?_|refine .flat _ (f5) rfl ?_|refine .flat _ (f6) rfl ?_|(refine .aA [0,1,2,30,33,65,69] hK ?_;clear hK K)|(with_reducible refine .done (hK _ ?_);clear hK K)|refine U.of rfl ?_|(with_reducible refine au.aD (fun h =>?_) (fun h =>?_) <;>try simp only[h])) <;>try simp only[aF,R,simprocAttr])
  all_goals clear R
  all_goals rfl
 ·have w5':decide (r.fm≥r.no)=false:=by rw[decide_eq_true_eq] at w5;exact decide_eq_false (by omega)
  rw[ye (by rw[hK,w1,w2,w3,w4,w5];rfl)];have R:=y6 @k (y6 @w1' (y6 @w2 (y6 @w4' (y6 @w5' (y6 @iq (y6 @gO (y6 @bd az)))))))
  repeat' ((first |(with_reducible refine .guard (fun hb =>?_) (fun hb =>?_) <;>try simp only[hb])|refine U.aE (by decide +kernel) rfl fun K hK =>?_|refine .flat _ (f1) rfl ?_|refine .flat _ (f2) rfl ?_|refine .flat _ (f3) rfl ?_|refine .flat _ (f4) rfl ?_|refine .flat _ (f5) rfl ?_|refine .flat _ (f6) rfl ?_|(refine .aA [0,1,2,30,33,65,69] hK ?_;clear hK K)|(with_reducible refine .done (hK _ ?_);clear hK K)|refine U.of rfl ?_|(with_reducible refine au.aD (fun h =>?_) (fun h =>?_) <;>try simp only[h])) <;>try simp only[aF,R,simprocAttr])
  all_goals clear R
  all_goals rfl
theorem EC{n:Int}(h:0≤n∧n<256):IntKind.u8.wrap n=n:=by
 simp only[IntKind.wrap,IntKind.bits,IntKind.signed];simp;omega
theorem dV(a b:List UInt8)(h:a.length+b.length≤9223372036854775807):bJ .add (enc (ak.of a)) (enc (ak.of b))=some (enc (ak.of (a++b))):=by
 rw[YA _ _ (by rw[ak.c8,ak.c8];exact h)];rfl
def j7(m:Nat):UInt8:=UInt8.ofNat (48+m%10)
theorem Vx{m:Nat}(h:10≤m):Lib.itoa (m:Int)=Lib.itoa ((m / 10:Nat):Int)++[j7 m]:=by
 rw[Lib.itoa_nonneg,Lib.itoa_nonneg,rv (by omega)];rfl
theorem Vy{m:Nat}(h:m<10):Lib.itoa (m:Int)=[j7 m]:=by
 rw[Lib.itoa_nonneg,Lib.decDigits_one (by omega),j7,Nat.mod_eq_of_lt h]
def tJ(t:Nat×List UInt8):ab:=ay [(0,.int .i64 (t.1:Int)),(3,enc (ak.of (j7 t.1::t.2)))] []
theorem w6(m:Nat)(hm:m≤9223372036854775807):aM Tryz.prog 134 [enc (m:Int)] (enc (ak.of (Lib.itoa (m:Int)))):=by
 refine aM.bL Tryz.func134 Ha It JN (t8 rfl) (fun hwf W0 bC E1 =>?_);simp only[yb,Ck,bB];clear hwf;have hd:∀ k:Nat,k≤9223372036854775807→IntKind.i64.wrap (48+(k:Int).tmod 10)=48+(k:Int).tmod 10∧IntKind.u8.wrap (48+(k:Int).tmod 10)=48+(k:Int).tmod 10∧ak.of [UInt8.ofNat (48+(k:Int).tmod 10).toNat]=ak.of [j7 k]:=fun k hk=>by
  have e:((k:Int)).tmod 10=((k%10:Nat):Int):=rfl;rw[e];refine ⟨dC _ (by omega) (by omega),EC (by omega),?_⟩;rw[j7,show ((48:Int)+((k%10:Nat):Int)).toNat=48+k%10 by omega]
 obtain ⟨h1,h2,h3⟩:=hd m hm;have R:=y6 @h1 (y6 @h2 (y6 @h3 (y6 @bd az)))
 repeat' ((first |refine U.aE (by decide +kernel) rfl fun K hK =>?_|(refine .aA [0,2,3,11] hK ?_;clear hK K)|(with_reducible refine .done (hK _ ?_);clear hK K)|refine U.of rfl ?_|(with_reducible refine au.aD (fun h =>?_) (fun h =>?_) <;>try simp only[h])) <;>try simp only[aF,R,simprocAttr])
 all_goals clear R
 refine U.loop tJ (fun t=>t.1≤9223372036854775807∧Lib.itoa (m:Int)=Lib.itoa (t.1:Int)++t.2) (fun t=>t.1) (m,[]) ⟨hm,by simp⟩ ?_ ?_
 ·simp only[tJ];refine bw.cN ?_ ?_ ?_ ?_ <;>simp[cj,ct,cq,bU,cg,I.only,bK]
 rintro ⟨k,t⟩ ⟨hk,hin⟩;simp only at hk hin;simp only[tJ];by_cases hlt:k<10
 ·have hlc:decide ((k:Int)≥10)=false:=decide_eq_false (by omega);rw[Vy hlt] at hin;rw[hin];have R:=y6 @hlc (y6 @bd az)
  repeat' ((first |refine U.aE (by decide +kernel) rfl fun K hK =>?_|(refine .aA [0,2,3,11] hK ?_;clear hK K)|(with_reducible refine .done (hK _ ?_);clear hK K)|refine U.of rfl ?_|(with_reducible refine au.aD (fun h =>?_) (fun h =>?_) <;>try simp only[h])) <;>try simp only[aF,R,simprocAttr])
  all_goals clear R
  all_goals rfl
 ·have hlc:decide ((k:Int)≥10)=true:=decide_eq_true (by omega);have hq:IntKind.i64.wrap ((k:Int).tdiv 10)=((k / 10:Nat):Int):=by
   have e:((k:Int)).tdiv 10=((k / 10:Nat):Int):=rfl;rw[e];exact dC _ (by omega) (by omega)
  obtain ⟨g1,g2,g3⟩:=hd (k / 10) (by omega);rw[Vx (m:=k) (by omega),zz0,List.singleton_append] at hin;have hlen:(j7 k::t).length≤100:=by
   have h4:=congrArg List.length hin;rw[Z1] at h4;have h5:=Lib.itoa_length_le (m:Int) (by omega) (by omega);omega
  have hadd:=dV [j7 (k / 10)] (j7 k::t) (by simp only[List.length_singleton];omega);have R:=y6 @hlc (y6 @hq (y6 @g1 (y6 @g2 (y6 @g3 (y6 @hadd (y6 @bd az))))))
  repeat' ((first |refine U.aE (by decide +kernel) rfl fun K hK =>?_|(refine .aA [0,2,3,11] hK ?_;clear hK K)|(with_reducible refine .done (hK _ ?_);clear hK K)|refine U.of rfl ?_|(with_reducible refine au.aD (fun h =>?_) (fun h =>?_) <;>try simp only[h])) <;>try simp only[aF,R,simprocAttr])
  all_goals clear R
  refine ⟨(k / 10,j7 k::t),⟨by simp only;omega,hin⟩,by simp only;omega,?_⟩;clear hin hd hadd hlen;refine bw.cN ?_ ?_ ?_ ?_ <;>simp[cj,ct,cq,bU,cg,I.only,bK]
theorem mh{n:Int}(h:0≤n∧n<100000000):aM Tryz.prog 134 [.int .i64 n] (enc (ak.of (Lib.itoa n)))∧(Lib.itoa n).length≤8:=by
 obtain ⟨m,rfl⟩:=zz1 h.1;exact ⟨w6 m (by omega),pQ (k:=7) (by omega)⟩
theorem E6(r:aj)(hs:r.text.length≤1000000000000)(hn:∀ n∈dD r,0≤n∧n<100000000):aM Tryz.prog 133 [enc r] (enc (ak.of (cA r))):=by
 obtain ⟨c1,l1⟩:=mh (hn r.bf (by simp[dD]));obtain ⟨c2,l2⟩:=mh (hn r.no (by simp[dD]));obtain ⟨c3,l3⟩:=mh (hn r.kind (by simp[dD]));obtain ⟨c4,l4⟩:=mh (hn r.ec (by simp[dD]));obtain ⟨c5,l5⟩:=mh (hn r.known (by simp[dD]));obtain ⟨GU,l6⟩:=mh (hn r.eX (by simp[dD]));obtain ⟨GV,l7⟩:=mh (hn r.fm (by simp[dD]));have hb:cA r=Lib.itoa r.bf++[32]++Lib.itoa r.no++[32]++Lib.itoa r.kind++[32]++Lib.itoa r.ec++[32]++Lib.itoa r.known++[32]++Lib.itoa r.eX++[32]++Lib.itoa r.fm++[32]++r.text:=by
  simp[cA,dh,dD]
 rw[hb];generalize Lib.itoa r.bf=x1 at *;generalize Lib.itoa r.no=x2 at *;generalize Lib.itoa r.kind=x3 at *;generalize Lib.itoa r.ec=x4 at *;generalize Lib.itoa r.known=x5 at *;generalize Lib.itoa r.eX=x6 at *;generalize Lib.itoa r.fm=x7 at *;have ls:([32]:List UInt8).length=1:=rfl;have a1:=dV x1 [32] (by omega);have a2:=dV (x1++[32]) x2 (by simp only[Z1,ls];omega);have a3:=dV (x1++[32]++x2) [32] (by simp only[Z1,ls];omega);have a4:=dV (x1++[32]++x2++[32]) x3 (by simp only[Z1,ls];omega);have a5:=dV (x1++[32]++x2++[32]++x3) [32] (by simp only[Z1,ls];omega);have a6:=dV (x1++[32]++x2++[32]++x3++[32]) x4 (by simp only[Z1,ls];omega);have a7:=dV (x1++[32]++x2++[32]++x3++[32]++x4) [32] (by simp only[Z1,ls];omega);have a8:=dV (x1++[32]++x2++[32]++x3++[32]++x4++[32]) x5 (by simp only[Z1,ls];omega);have a9:=dV (x1++[32]++x2++[32]++x3++[32]++x4++[32]++x5) [32] (by simp only[Z1,ls];omega);have b1:=dV (x1++[32]++x2++[32]++x3++[32]++x4++[32]++x5++[32]) x6 (by simp only[Z1,ls];omega);have b2:=dV (x1++[32]++x2++[32]++x3++[32]++x4++[32]++x5++[32]++x6) [32] (by simp only[Z1,ls];omega);have b3:=dV (x1++[32]++x2++[32]++x3++[32]++x4++[32]++x5++[32]++x6++[32]) x7 (by simp only[Z1,ls];omega);have b4:=dV (x1++[32]++x2++[32]++x3++[32]++x4++[32]++x5++[32]++x6++[32]++x7) [32] (by simp only[Z1,ls];omega);have b5:=dV (x1++[32]++x2++[32]++x3++[32]++x4++[32]++x5++[32]++x6++[32]++x7++[32]) r.text (by simp only[Z1,ls];omega);refine aM.bL Tryz.func133 G9 Is JM (t8 rfl) (fun hwf W0 bC E1 =>?_);simp only[ya,Cj,bB];clear hwf hb hn;have R:=y6 @my (y6 @a1 (y6 @a2 (y6 @a3 (y6 @a4 (y6 @a5 (y6 @a6 (y6 @a7 (y6 @a8 (y6 @a9 (y6 @b1 (y6 @b2 (y6 @b3 (y6 @b4 (y6 @b5 az))))))))))))))
 repeat' ((first |refine U.aE (by decide +kernel) rfl fun K hK =>?_|refine .flat _ (c1) rfl ?_|refine .flat _ (c2) rfl ?_|refine .flat _ (c3) rfl ?_|refine .flat _ (c4) rfl ?_|refine .flat _ (c5) rfl ?_|refine .flat _ (GU) rfl ?_|refine .flat _ (GV) rfl ?_|(refine .aA [0,1,2,3] hK ?_;clear hK K)|(with_reducible refine .done (hK _ ?_);clear hK K)|refine U.of rfl ?_|(with_reducible refine au.aD (fun h =>?_) (fun h =>?_) <;>try simp only[h])) <;>try simp only[aF,R,simprocAttr])
 all_goals clear R
 all_goals rfl
theorem Er(s:Int)(l:List UInt8)(c:UInt8):cO s (l++[c])=(257*cO s l+c.toNat+1)%1000003:=by simp[cO]
theorem Eo{s:Int}{c:UInt8}(h:0≤s∧s<1000003):IntKind.i64.wrap (257*s)=257*s∧IntKind.i64.wrap (c.toNat:Int)=c.toNat∧IntKind.i64.wrap (257*s+c.toNat)=257*s+c.toNat∧IntKind.i64.wrap (257*s+c.toNat+1)=257*s+c.toNat+1 ∧
  (257*s+(c.toNat:Int)+1).tmod 1000003=(257*s+c.toNat+1)%1000003:=by
 have hc:=c.toNat_lt;exact ⟨dC _ (by omega) (by omega),dC _ (by omega) (by omega),dC _ (by omega) (by omega),dC _ (by omega) (by omega),Int.tmod_eq_emod_of_nonneg (by omega)⟩
theorem ua{r:aj}{k:Nat}(ht:r.text.length≤k)(hn:∀ n∈dD r,0≤n∧n<100000000):(cA r).length≤63+k:=by
 have h:∀ l:List Int,(∀ x∈l,0≤x∧x<100000000)→(dh l).length≤9*l.length:=by
  intro l
  induction l with
  |nil=>intro _;simp[dh]
  |cons x l ih =>
   intro h;have h1:=ih fun y hy=>h y (by simp[hy]);have h2:=pQ (k:=7) (n:=x) (by have:=h x (by simp);omega);simp only[dh] at h1;simp only[dh,List.flatMap_cons,Z1,zz5,zy6];omega
 have:=h _ hn;have h4:(dD r).length=7:=rfl;rw[cA,Z1];omega
theorem o8(s:Int)(hs:0≤s∧s<1000003)(r:aj)(hr:bg r=true):aM Tryz.prog 81 [enc s,enc r] (.tuple [enc (ak.of (cV s r)),enc (cO s (cA r))]):=by
 have ht:=sE hr;have hn:=qb hr;have hbl:=ua ht hn;have hF:=E0 r (by omega);have hsum:=fun l=>mf hs l;simp only[cV];generalize hb:cA r=b at *;have hsb:=s9 b;refine aM.bL Tryz.func81 HV Jd Kv (t8 rfl) (fun hwf W0 bC E1 =>?_);simp only[yR,C1,bB,Z5];clear hwf;have R:=y6 @hsb (y6 @bd (y6 @ij az))
 repeat' ((first |refine aY.dU rfl fun m =>?_|refine U.aE (by decide +kernel) rfl fun K hK =>?_|refine .flat _ (hF) rfl ?_|(refine .aA [0,1,3,4,5,6,8,12,13,14,15] hK ?_;clear hK K)|(with_reducible refine .done (hK _ ?_);clear hK K)|refine U.of rfl ?_|(with_reducible refine au.aD (fun h =>?_) (fun h =>?_) <;>try simp only[h])) <;>try simp only[aF,R,simprocAttr])
 all_goals clear R
 refine U.loop (fun i:Nat=>ay [(0,.int .i64 (cO s (b.take i))),(3,.ptr 3 []),(6,enc (ak.of b)),(12,enc b),(13,.int .i64 b.length),(14,.int .i64 i)] [(3,.box (enc r))]) (fun i=>i≤b.length) (fun i=>b.length-i) 0 (Nat.zero_le _) ?_ ?_
 ·refine bw.rH [12] 12 (x:=.view 12 [] 1 0 b.length) (y:=enc b) rfl (z6 rfl) ?_ ?_ ?_ ?_ ?_ <;>simp[dQ,bU,cj,ct,cq,aH,jh,cg,aJ,ai.only,I.only,bK]
  all_goals rfl
 intro i hi;have hst:=hsum (b.take i);by_cases hlt:i<b.length
 ·have hlc:=eP hlt;have he:=fun A=>fJ (A:=A) 1 hlt rfl;have hw:=eG (i:=i) (by omega);have hsn:=Er s (b.take i) b[i];rw[←List.take_succ_eq_append_getElem hlt] at hsn;generalize b[i]=c at *;generalize cO s (b.take i)=z at *;obtain ⟨g1,g2,g3,g4,g5⟩:=Eo (c:=c) hst;have R:=y6 @hlc (y6 @he (y6 @hw (y6 @g1 (y6 @g2 (y6 @g3 (y6 @g4 (y6 @g5 (y6 @qC (y6 @bd az)))))))))
  repeat' ((first |refine U.aE (by decide +kernel) rfl fun K hK =>?_|(refine .aA [0,1,3,4,5,6,8,12,13,14,15] hK ?_;clear hK K)|(with_reducible refine .done (hK _ ?_);clear hK K)|refine U.of rfl ?_|(with_reducible refine au.aD (fun h =>?_) (fun h =>?_) <;>try simp only[h])) <;>try simp only[aF,R,simprocAttr])
  all_goals clear R
  refine ⟨i+1,by omega,by omega,?_⟩;rw[hsn];refine bw.cN ?_ ?_ ?_ ?_ <;>simp[cj,ct,cq,bU,aH,cg,dT,I.only,ai.only,bK]
  all_goals rfl
 ·have hlc:=fu hlt;have hge:i=b.length:=by omega
  subst hge;rw[List.take_length] at hst ⊢;generalize cO s b=z at *;obtain ⟨q,rfl⟩:=zz1 hst.1;have hz:=E5 (q:Int);have hzl:=pQ (k:=7) (n:=(q:Int)) (by omega);rw[vf] at hz;have a1:=dV (Lib.itoa (q:Int)) [32] (by simp;omega);have a2:=dV (Lib.itoa (q:Int)++[32]) b (by simp;omega);have a3:=dV (Lib.itoa (q:Int)++[32]++b) [10] (by simp;omega);have e:dh [(q:Int)]=Lib.itoa (q:Int)++[32]:=by simp[dh]
  rw[e];have R:=y6 @hlc (y6 @my (y6 @pz (y6 @a1 (y6 @a2 (y6 @a3 az)))))
  repeat' ((first |refine U.aE (by decide +kernel) rfl fun K hK =>?_|refine .flat _ (hz) rfl ?_|(refine .aA [0,1,3,4,5,6,8,12,13,14,15] hK ?_;clear hK K)|(with_reducible refine .done (hK _ ?_);clear hK K)|refine U.of rfl ?_|(with_reducible refine au.aD (fun h =>?_) (fun h =>?_) <;>try simp only[h])) <;>try simp only[aF,R,simprocAttr])
  all_goals clear R
  all_goals rfl
theorem xm(s:Int)(hs:0≤s∧s<1000003)(r:aj)(hr:bg r=true):aM Tryz.prog 83 [enc s,enc r] (.tuple [enc (ak.of (cV s r)),enc (cO s (cA r))]):=by
 have ht:=sE hr;have hn:=qb hr;have hbl:=ua ht hn;have hF:=E6 r (by omega) hn;have hsum:=fun l=>mf hs l;simp only[cV];generalize hb:cA r=b at *;have hl:=kv b;refine aM.bL Tryz.func83 HX Jf Ky (t8 rfl) (fun hwf W0 bC E1 =>?_);simp only[yT,C3,bB,Z5];clear hwf;have R:=y6 @bd az
 repeat' ((first |refine U.aE (by decide +kernel) rfl fun K hK =>?_|refine .flat _ (hF) rfl ?_|(refine .aA [0,1,3,4,5,6,7,13] hK ?_;clear hK K)|(with_reducible refine .done (hK _ ?_);clear hK K)|refine U.of rfl ?_|(with_reducible refine au.aD (fun h =>?_) (fun h =>?_) <;>try simp only[h])) <;>try simp only[aF,R,simprocAttr])
 all_goals clear R
 refine U.loop (fun i:Nat=>ay [(0,.int .i64 (cO s (b.take i))),(3,.ptr 3 []),(6,enc (ak.of b)),(7,.int .i64 i)] [(3,.box (enc r))]) (fun i=>i≤b.length) (fun i=>b.length-i) 0 (Nat.zero_le _) ?_ ?_
 ·refine bw.cN ?_ ?_ ?_ ?_ <;>simp[cj,ct,cq,bU,aH,cg,dT,I.only,ai.only,bK]
  all_goals rfl
 intro i hi;have hst:=hsum (b.take i);by_cases hlt:i<b.length
 ·have hlc:=eP hlt;have he:=oL b hlt;have hw:=eG (i:=i) (by omega);have hsn:=Er s (b.take i) b[i];rw[←List.take_succ_eq_append_getElem hlt] at hsn;generalize b[i]=c at *;generalize cO s (b.take i)=z at *;obtain ⟨g1,g2,g3,g4,g5⟩:=Eo (c:=c) hst;have R:=y6 @hl (y6 @hlc (y6 @he (y6 @hw (y6 @g1 (y6 @g2 (y6 @g3 (y6 @g4 (y6 @g5 (y6 @bd az)))))))))
  repeat' ((first |refine U.aE (by decide +kernel) rfl fun K hK =>?_|(refine .aA [0,1,3,4,5,6,7,13] hK ?_;clear hK K)|(with_reducible refine .done (hK _ ?_);clear hK K)|refine U.of rfl ?_|(with_reducible refine au.aD (fun h =>?_) (fun h =>?_) <;>try simp only[h])) <;>try simp only[aF,R,simprocAttr])
  all_goals clear R
  refine ⟨i+1,by omega,by omega,?_⟩;rw[hsn];refine bw.cN ?_ ?_ ?_ ?_ <;>simp[cj,ct,cq,bU,aH,cg,dT,I.only,ai.only,bK]
  all_goals rfl
 ·have hlc:=fu hlt;have hge:i=b.length:=by omega
  subst hge;rw[List.take_length] at hst ⊢;generalize cO s b=z at *;obtain ⟨q,rfl⟩:=zz1 hst.1;have hz:=w6 q (by omega);have hzl:=pQ (k:=7) (n:=(q:Int)) (by omega);have a1:=dV (Lib.itoa (q:Int)) [32] (by simp;omega);have a2:=dV (Lib.itoa (q:Int)++[32]) b (by simp;omega);have a3:=dV (Lib.itoa (q:Int)++[32]++b) [10] (by simp;omega);have e:dh [(q:Int)]=Lib.itoa (q:Int)++[32]:=by simp[dh]
  rw[e];have R:=y6 @hl (y6 @hlc (y6 @my (y6 @pz (y6 @a1 (y6 @a2 (y6 @a3 az))))))
  repeat' ((first |refine U.aE (by decide +kernel) rfl fun K hK =>?_|refine .flat _ (hz) rfl ?_|(refine .aA [0,1,3,4,5,6,7,13] hK ?_;clear hK K)|(with_reducible refine .done (hK _ ?_);clear hK K)|refine U.of rfl ?_|(with_reducible refine au.aD (fun h =>?_) (fun h =>?_) <;>try simp only[h])) <;>try simp only[aF,R,simprocAttr])
  all_goals clear R
  all_goals rfl
def kg(s:Int)(r:aj):List UInt8×Int×Int:=if dS 0 1000002 s=false then ([],0,1) else if bg r=false then ([],0,80) else (cV s r,cO s (cA r),0)
theorem VX{s:Int}{r:aj}(h:dS 0 1000002 s=false):kg s r=([],0,1):=by rw[kg,if_pos h]
theorem VY{s:Int}{r:aj}(h:dS 0 1000002 s=true)(h2:bg r=false):kg s r=([],0,80):=by rw[kg,h,if_neg (by decide),if_pos h2]
theorem VZ{s:Int}{r:aj}(h:dS 0 1000002 s=true)(h2:bg r=true):kg s r=(cV s r,cO s (cA r),0):=by rw[kg,h,h2,if_neg (by decide),if_neg (by decide)]
theorem Fo(s:Int)(r:aj):aM Tryz.prog 29 [enc s,enc r] (.tuple [enc (ak.of (kg s r).1),enc (kg s r).2.1,enc (kg s r).2.2]):=by
 refine aM.bL Tryz.func29 HC IW Kd (t8 rfl) (fun hwf W0 bC E1 =>?_);simp only[yE,CK,bB,Z5];clear hwf;have f1:=xl s;have f2:=o7 r;cases q1:dS 0 1000002 s
 ·rw[q1] at f1;rw[VX q1];have R:=az
  repeat' ((first |refine U.aE (by decide +kernel) rfl fun K hK =>?_|refine .flat _ (f1) rfl ?_|(refine .aA [0,1,3,4,5,6,7,8,9,13] hK ?_;clear hK K)|(with_reducible refine .done (hK _ ?_);clear hK K)|refine U.of rfl ?_|(with_reducible refine au.aD (fun h =>?_) (fun h =>?_) <;>try simp only[h])) <;>try simp only[aF,R,simprocAttr])
  all_goals clear R
  all_goals rfl
 cases q2:bg r
 ·rw[q1] at f1;rw[q2] at f2;rw[VY q1 q2];have R:=az
  repeat' ((first |refine U.aE (by decide +kernel) rfl fun K hK =>?_|refine .flat _ (f1) rfl ?_|refine .flat _ (f2) rfl ?_|(refine .aA [0,1,3,4,5,6,7,8,9,13] hK ?_;clear hK K)|(with_reducible refine .done (hK _ ?_);clear hK K)|refine U.of rfl ?_|(with_reducible refine au.aD (fun h =>?_) (fun h =>?_) <;>try simp only[h])) <;>try simp only[aF,R,simprocAttr])
  all_goals clear R
  all_goals rfl
 have f3:=o8 s (by have:=mz.1 q1;omega) r q2;rw[q1] at f1;rw[q2] at f2;rw[VZ q1 q2];have R:=az
 repeat' ((first |refine U.aE (by decide +kernel) rfl fun K hK =>?_|refine .flat _ (f1) rfl ?_|refine .flat _ (f2) rfl ?_|refine .lead _ (f3) ?_|(refine .aA [0,1,3,4,5,6,7,8,9,13] hK ?_;clear hK K)|(with_reducible refine .done (hK _ ?_);clear hK K)|refine U.of rfl ?_|(with_reducible refine au.aD (fun h =>?_) (fun h =>?_) <;>try simp only[h])) <;>try simp only[aF,R,simprocAttr])
 all_goals clear R
 all_goals rfl
def v8:bj:=(.seq (.bQ none RJ) (.seq (.seq (.bQ none RQ) (.cond (.t 20) (.bQ none Aw) .skip)) (.seq (.bQ none RS) (.seq (.bQ none RT) (.seq (.bQ none Ax) (.seq (.seq (.bQ none RU) (.block 0 (.loop (.seq (.bQ none RV) (.seq (.cond (.t 29) .skip (.exit 0)) (.seq (.block 1 (.seq (.bQ none RW) (.bQ none Au))) (.bQ none RL))))))) (.seq (.bQ none RM) (.seq (.seq (.bQ none RN) (.cond (.t 59) (.bQ none Av) .skip)) (.seq (.bQ none RO) (.seq (.seq (.bQ none RP) (.cond (.t 75) (.bQ none uV) .skip)) (.seq (.bQ K9 uW) .ret)))))))))))
theorem Ln:Tryz.f70.body.bind (uu Tryz.prog Tryz.f70.ntmps)=some (.bQ none As,124,[4,5,6],13,v8):=by kernel_rfl
def gN(s:Int)(t:List UInt8):aj×Int×Bool:=match dE bg s t with
 |some (r,n)=>(r,n,true)
 |none=>(default,0,false)
def gM(r:aj)(n:Int)(b:Bool):List (Nat×ai):=[(1900004,.box (enc r)),(1900005,.box (.int .i64 n)),(1900006,.box (.bool b))]
def kC(x:aj×Int×Bool):I:=.tuple [enc x.1,.int .i64 x.2.1,.bool x.2.2]
def qj(s:Int)(t:List UInt8):bY:=fun r os'=>r=kC (gN s t)∧os'=gM (gN s t).1 (gN s t).2.1 (gN s t).2.2
def mZ:List (Nat×Nat):=[(1900004,4),(1900005,5),(1900006,6)]
def vM:List (Nat×ai):=[(6,.box (.bool false)),(5,.box (.int .i64 0)),(4,.box (enc (default:aj)))]
def mJ:List Nat:=[1900004,1900005,1900006]
def nw:List I:=[enc (default:aj),.int .i64 0,.bool false]
theorem sY(m:Nat):bp mZ m=if m=1900004 then 4 else if m=1900005 then 5 else if m=1900006 then 6 else m:=rfl
theorem sc{r:aj}{n:Int}{b:Bool}{m:Nat}{y:ai}(h:aJ (gM r n b) m=some y):(m=1900004∧y=.box (enc r))∨(m=1900005∧y=.box (.int .i64 n))∨(m=1900006∧y=.box (.bool b)):=by
 simp only[gM,aJ] at h;split at h
 ·rename_i e;cases h;exact .inl ⟨e,rfl⟩
 split at h
 ·rename_i e;cases h;exact .inr (.inl ⟨e,rfl⟩)
 split at h
 ·rename_i e;cases h;exact .inr (.inr ⟨e,rfl⟩)
 ·cases h
theorem kX{r:aj}{n:Int}{b:Bool}{m:Nat} : aH (gM r n b) m=true↔m=1900004∨m=1900005∨m=1900006:=by
 constructor
 ·intro h;cases hy:aJ (gM r n b) m with
  |none=>rw[aH,hy] at h;cases h
  |some y=>rcases sc hy with ⟨h,_⟩ | ⟨h,_⟩ | ⟨h,_⟩ <;>simp[h]
 ·rintro (rfl | rfl | rfl) <;>rfl
theorem mK{r:aj}{n:Int}{b:Bool}{m:Nat}{y:ai}(h:aJ (gM r n b) m=some y)(p:Nat→Bool):y.only p=true∧y.ep=true∧y.aS (bp mZ)=y:=by
 rcases sc h with ⟨_,rfl⟩ | ⟨_,rfl⟩ | ⟨_,rfl⟩
 ·exact ⟨bK _ _,rfl,by simp only[ai.aS,iP]⟩
 ·exact ⟨rfl,rfl,rfl⟩
 ·exact ⟨rfl,rfl,rfl⟩
theorem Vk:eK mZ (gM default 0 false) vM:=by
 refine ⟨fun m y hy=>⟨?_,(mK hy _).1,(mK hy (fun _=>true)).2.1⟩,fun m m' hm hm' e =>?_⟩
 ·rw[(mK hy (fun _=>true)).2.2];rcases sc hy with ⟨rfl,rfl⟩ | ⟨rfl,rfl⟩ | ⟨rfl,rfl⟩ <;>rfl
 ·have k1:=kX.1 hm;have k2:=kX.1 hm';rw[sY,sY] at e
  (repeat' split at e) <;>omega
theorem Gr(s:Int)(t:List UInt8):∀ r os',qj s t r os'→dF false mZ (gM default 0 false) vM r os':=by
 rintro r os' ⟨rfl,rfl⟩;refine ⟨fun m y hy=>⟨(mK hy _).1,(mK hy (fun _=>true)).2.1,fun h=>by cases h⟩,fun m m' hm hm' e =>?_,fun m hm=>kX.2 (kX.1 hm),fun m hm hno =>?_,⟨?_,fun h=>by cases h⟩⟩
 ·have k1:=kX.1 hm;have k2:=kX.1 hm';rw[sY,sY] at e
  (repeat' split at e) <;>omega
 ·rw[kX.2 (kX.1 hm)] at hno;cases hno
 ·simp only[kC,I.only,I.cH,bK,Bool.and_self]
theorem Gq(s:Int)(t:List UInt8):∀ r os',qj s t r os'→∃ osF,r.flat=true∧r.aS (bp mZ)=r∧(∀ m z,aJ osF m=some z→aJ (c7 mZ os'++vM) m=some z∧z.only (aH osF)=true∧z.ep=true)∧(r=kC (gN s t)∧osF=[]):=by
 rintro r os' ⟨rfl,rfl⟩;refine ⟨[],?_,?_,fun m z hz=>by simp[aJ] at hz,rfl,rfl⟩
 ·rfl
 ·simp only[kC,I.aS,I.cW,iP]
theorem Dy{r:aj}{n:Int}{b:Bool}{post:bY}{A:ab}(hp:post (kC (r,n,b)) (gM r n b))(t4:A.t 4=.ptr 1900004 [])(t5:A.t 5=.ptr 1900005 [])(t6:A.t 6=.ptr 1900006 [])(o4:A.o 1900004=some (.box (enc r)))(o5:A.o 1900005=some (.box (.int .i64 n)))(o6:A.o 1900006=some (.box (.bool b))) :
  iL sN post A:=by
 refine ⟨gM r n b,[enc r,.int .i64 n,.bool b],fun m z hz=>⟨?_,(mK hz _).1,(mK hz (fun _=>true)).2.1⟩,⟨⟨enc r,?_,.inl ⟨rfl,fh _,bK _ _⟩⟩,⟨.int .i64 n,?_,.inl ⟨rfl,rfl,rfl⟩⟩,⟨.bool b,?_,.inl ⟨rfl,rfl,rfl⟩⟩,trivial⟩,hp⟩
 ·rcases sc hz with ⟨rfl,rfl⟩ | ⟨rfl,rfl⟩ | ⟨rfl,rfl⟩ <;>assumption
 ·simp only[mQ,t4,bR,o4];rfl
 ·simp only[mQ,t5,bR,o5];rfl
 ·simp only[mQ,t6,bR,o6];rfl
theorem oB{s:Int}{t:List UInt8}(hn:dE bg s t=none){A:ab}{x:aj}{n:Int}{b:Bool}(t4:A.t 4=.ptr 1900004 [])(t5:A.t 5=.ptr 1900005 [])(t6:A.t 6=.ptr 1900006 [])(o4:A.o 1900004=some (.box (enc x)))(o5:A.o 1900005=some (.box (.int .i64 n)))(o6:A.o 1900006=some (.box (.bool b))) :
  qn sN (qj s t) jC mJ nw (.panic jC) A:=by
 refine ⟨rfl,⟨⟨_,o4,(eD _).trans (eD _).symm⟩,⟨_,o5,rfl⟩,⟨_,o6,rfl⟩,trivial⟩,?_⟩;refine Dy (r:=default) (n:=0) (b:=false) ?_ t4 t5 t6 ?_ ?_ ?_
 ·show _∧_
  rw[gN,hn];exact ⟨rfl,rfl⟩
 ·simp[mJ,nw,nf,ab.aP]
 ·simp[mJ,nw,nf,ab.aP]
 ·simp[mJ,nw,nf,ab.aP]
theorem BV{Q:Exit→ab→Prop}{ts:List (Nat×I)}{os0:List (Nat×ai)}{u:List UInt8}{v:I}(hv:v=enc (ak.of u))(hlen:u.length≤281474976710656)(h:∀ w t,cG 32 u=some (w,t)→fC w=none)(hq:Q (.panic jC) (ay ts os0)):o9 Tryz.prog Q 126 [v] (ay ts os0):=by
 subst hv;exact .mk false [] [] [enc (ak.of u)] jC _ (EX (ak.of u) (by rw[ak.c8];exact hlen) (by rw[ak.c8];exact h)) ⟨fun m x h=>by simp[aJ] at h,fun m m' h=>by simp[aH,aJ] at h⟩ ⟨.inl ⟨(iP _ _).symm,bK _ _,fh _⟩,trivial⟩
  (fun os' h=>by subst h;exact ⟨fun m x h=>by simp[aJ] at h,fun m m' h=>by simp[aH,aJ] at h,fun m h=>h,fun m h=>by simp[aH,aJ] at h,⟨rfl,fun h=>by cases h⟩⟩) (fun os' h=>by subst h;exact hq)
def dH(l:List Int):dW 7 Int:=⟨(l++List.replicate 7 0).take 7,by simp⟩
theorem XA{l:List Int}(h:l.length<7)(v:Int):(⟨(dH l).l.set l.length v,by simp[(dH l).h]⟩:dW 7 Int)=dH (l++[v]):=by
 simp only[dH,dW.mk.injEq];refine List.ext_getElem (by simp) fun i h1 h2 =>?_;simp only[Z7,Z1,List.length_replicate,List.length_set,zz5,zy6] at h1 h2;simp only[List.getElem_set,List.getElem_take,List.getElem_append];by_cases e:l.length=i
 ·subst e;simp
 ·by_cases k:i<l.length
  ·rw[if_neg e,dif_pos k,dif_pos (by simp;omega),dif_pos k]
  ·rw[if_neg e,dif_neg k,dif_neg (by simp;omega)];simp only[List.getElem_replicate]
theorem zJ:I.agg [.int .i64 0,.int .i64 0,.int .i64 0,.int .i64 0,.int .i64 0,.int .i64 0,.int .i64 0]=enc (dH []):=rfl
theorem Xz{l:List Int}(h:l.length=7)(k:Nat):(dH l).g k=l.getD k 0:=by
 simp only[dW.g,dH];rw[List.take_left' h]
theorem YE{l:List Int}(h:l.length<7)(v:Int):(enc (dH l):I).du [l.length] (.int .i64 v)=enc (dH (l++[v])):=by
 have h1:(enc (dH l):I).db=some ((dH l).l.map enc):=rfl;rw[ta,h1];simp only[nh,u4 (dH l) h,oM,fo];rw[←XA h]
 change I.agg _=I.agg (((dH l).l.set l.length v).map enc)
 rw[List.map_set];rfl
theorem YN{A:ab}{n:Nat}{l:List Int}(h:l.length<7){v u:Int}{rest:List av} : ev A none n [l.length] (enc (dH l)) (.int .i64 v) rest (some (.int .i64 u))=aq rest (A.aP n (.box (enc (dH (l++[v]))))):=by
 rw[fq (s:=none) (v:=.int .i64 v) (old:=.int .i64 u) rfl rfl rfl,YE h]
theorem AV(t:List UInt8):Lib.hasSuffix t [10]=decide (t.getLast?=some 10):=by
 have:Lib.hasSuffix t [10]=true↔t.getLast?=some 10:=by
  rw[Lib.hasSuffix,List.isSuffixOf_iff_suffix];constructor
  ·rintro ⟨x,rfl⟩;simp
  ·intro h;obtain ⟨x,rfl⟩:=List.getLast?_eq_some_iff.1 h;exact ⟨x,rfl⟩
 cases h:Lib.hasSuffix t [10]
 ·rw[h] at this;exact (decide_eq_false fun k=>by simpa using this.2 k).symm
 ·rw[h] at this;exact (decide_eq_true (this.1 rfl)).symm
theorem Y0{t:List UInt8}(h:t.getLast?=some 10):Lib.trimSuffix t [10]=t.dropLast:=by
 rw[Lib.trimSuffix,AV,decide_eq_true h,if_pos rfl,List.dropLast_eq_take];rfl
theorem dJ:(∀ A n b rest (q r:aj),ev A (some 8) n [] b (enc q) rest (some (enc r))=aq rest (A.aP n (.box (enc q))))∧(∀ A n b rest (q:aj) v,v=enc q→ev A (some 8) n [] b v rest (some (enc (default:aj)))=aq rest (A.aP n (.box (enc q)))) :=
 ⟨fun A n b rest q r=>by rw[fq (fh _) (by rw[ir];rfl) ((eD _).trans (eD _).symm),fo],fun A n b rest q v h=>by rw[h,fq (fh _) (by rw[ir];rfl) ((eD _).trans (eD _).symm),fo]⟩
theorem ef:I.agg [.agg [.int .i64 0,.int .i64 0],.int .i64 0,.int .i64 0,.int .i64 0,.agg [.int .i64 0,.int .i64 0],.ah ⟨#[]⟩]=enc (default:aj):=rfl
theorem kK:(∀ x y,fp [.int .i64 0,.int .i64 0] [(0,.int .i64 x),(1,.int .i64 y)]=some [.int .i64 x,.int .i64 y]) ∧
  (∀ (x1 x2 n1 n2 n3 y1 y2:Int) (u:List UInt8),fp [.agg [.int .i64 0,.int .i64 0],.int .i64 0,.int .i64 0,.int .i64 0,.agg [.int .i64 0,.int .i64 0],.ah ⟨#[]⟩] [(0,.agg [.int .i64 x1,.int .i64 x2]),(1,.int .i64 n1),(2,.int .i64 n2),(3,.int .i64 n3),(4,.agg [.int .i64 y1,.int .i64 y2]),(5,enc (ak.of u))]=some [.agg [.int .i64 x1,.int .i64 x2],.int .i64 n1,.int .i64 n2,.int .i64 n3,.agg [.int .i64 y1,.int .i64 y2],enc (ak.of u)]) :=
 ⟨fun _ _=>rfl,fun _ _ _ _ _ _ _ _=>rfl⟩
theorem qD:(∀ A n b rest (q r:Int),ev A none n [] b (.int .i64 q) rest (some (.int .i64 r))=aq rest (A.aP n (.box (.int .i64 q))))∧(∀ A n b rest (q r:Bool),ev A none n [] b (.bool q) rest (some (.bool r))=aq rest (A.aP n (.box (.bool q)))) :=
 ⟨fun A n b rest q r=>by rw[fq (s:=none) (v:=.int .i64 q) (old:=.int .i64 r) rfl rfl rfl,fo],fun A n b rest q r=>by rw[fq (s:=none) (v:=.bool q) (old:=.bool r) rfl rfl rfl,fo]⟩
theorem LM{n0:Int}{l:List Int}{u:List UInt8}(h:l.length=7):I.agg [.agg [.int .i64 ((dH l).g 0),.int .i64 ((dH l).g 1)],.int .i64 ((dH l).g 2),.int .i64 ((dH l).g 3),.int .i64 ((dH l).g 4),.agg [.int .i64 ((dH l).g 5),.int .i64 ((dH l).g 6)],enc (ak.of u)]=enc (fw (n0::l) u):=by
 simp only[Xz h];rfl
theorem X2{s n0:Int}{t u:List UInt8}{l:List Int}(h:t.getLast?=some 10)(hp:eZ fC 8 t.dropLast=some (n0::l,u)) :
  dE bg s t=if bg (fw (n0::l) u)=true∧cV s (fw (n0::l) u)=t∧n0=cO s (cA (fw (n0::l) u)) then some (fw (n0::l) u,cO s (cA (fw (n0::l) u))) else none:=by
 rw[dE,if_pos h,hp,zx1];generalize fw (n0::l) u=r;simp only[List.headD_cons,kQ];by_cases a:bg r=true
 ·by_cases b:cV s r=t
  ·by_cases c:n0=cO s (cA r)
   ·simp[a,b,c]
   ·simp[a,b,c]
  ·simp[b]
 ·simp[a]
structure xu where
 n0:Int
 l:List Int
 u:List UInt8
def tM(s:Int)(t:List UInt8)(x:xu):ab:=ay [(0,enc s),(1,enc (ak.of t)),(4,.ptr 1900004 []),(5,.ptr 1900005 []),(6,.ptr 1900006 []),(7,enc (ak.of x.u)),(9,enc x.n0),(10,.ptr 10 []),(28,.int .i64 x.l.length)] ((10,.box (enc (dH x.l)))::gM default 0 false)
def EP(t:List UInt8)(x:xu):Prop:=x.l.length≤7∧x.u.length≤t.length∧eZ fC 8 t.dropLast=(eZ fC (7-x.l.length) x.u).map fun p=>(x.n0::x.l++p.1,p.2)
theorem wN{f:List UInt8→Option Int}{k:Nat}{u w v:List UInt8}{n:Int}(h1:cG 32 u=some (w,v))(h2:f w=some n):eZ f (k+1) u=(eZ f k v).map fun p=>(n::p.1,p.2):=by
 rw[eZ,h1];simp only[h2]
theorem wL{f:List UInt8→Option Int}{k:Nat}{u:List UInt8}(h:∀ w t,cG 32 u=some (w,t)→f w=none):eZ f (k+1) u=none:=by
 rw[eZ];cases h1:cG 32 u with
 |none=>rfl
 |some p=>simp only[h p.1 p.2 h1]
theorem zA(u:List UInt8):(∃ w v n,cG 32 u=some (w,v)∧fC w=some n∧v.length≤u.length)∨∀ w t,cG 32 u=some (w,t)→fC w=none:=by
 cases h1:cG 32 u with
 |none=>exact .inr fun w t h=>by cases h
 |some p =>
  obtain ⟨w,v⟩:=p;cases h2:fC w with
  |none=>exact .inr fun w' t' h=>by cases h;exact h2
  |some n=>exact .inl ⟨w,v,n,rfl,h2,by have:=ru h1;simp only at this;omega⟩
theorem Yj{s:Int}(hs:0≤s∧s<1000003){t:List UInt8}(ht:t.length≤281474976710656)(W:World)(D:aI)(E:aO)(n:Nat)(d:Deferred) :
  U ⟨Tryz.prog,W,D,n,bS E,E,fy,none,some [d]⟩ v8 (qn sN (qj s t) jC mJ nw) (ay [(0,enc s),(1,enc (ak.of t)),(4,.ptr 1900004 []),(5,.ptr 1900005 []),(6,.ptr 1900006 [])] (gM default 0 false)):=by
 have hC:=EW (ak.of t) (ak.of [10]);rw[ak.c8,ak.c8,AV] at hC;simp only[v8,gM];by_cases hl:t.getLast?=some 10
 ·have hd:decide (t.getLast?=some 10)=true:=decide_eq_true hl;rw[hd,Y0 hl] at hC;have hT:dE bg s t=(eZ fC 8 t.dropLast).bind fun p=>(kQ bg s t (fw p.1 p.2)).bind fun q=>if p.1.headD 0=q.2 then some q else none:=by rw[dE,if_pos hl]
  have hlt:t.dropLast.length≤t.length:=by simp
  generalize hu0:t.dropLast=u0 at *;rcases zA u0 with ⟨cS,v0,m0,hw,ho,hv⟩ | hno
  rotate_left
  ·have hn:dE bg s t=none:=by rw[hT,wL (k:=7) hno];rfl
   have R:=y6 @hd (y6 @pz (y6 @jN (y6 @zJ (y6 @bd az))))
   repeat' ((first |(with_reducible refine .guard (fun hb =>?_) (fun hb =>?_) <;>try simp only[hb])|(refine U.lj (gs:=Ax) (gs1:=[_]) rfl fun K hK =>?_)|refine U.aE (by decide +kernel) rfl fun K hK =>?_|refine .flat _ (hC) rfl ?_|(refine .aA [0,1,4,5,6,7,8,9,10,11,12,20,28,29,59,75] hK ?_;clear hK K)|(with_reducible refine .done (hK _ ?_);clear hK K)|refine U.of rfl ?_|(with_reducible refine au.aD (fun h =>?_) (fun h =>?_) <;>try simp only[h])) <;>try simp only[aF,R,simprocAttr])
   all_goals clear R
   exact .call (BV rfl (by omega) hno (oB hn rfl rfl rfl rfl rfl rfl))
  have h126:=wZ (ak.of u0) (by rw[ak.c8];omega) cS v0 m0 (by rw[ak.c8];exact hw) ho;have R:=y6 @hd (y6 @pz (y6 @jN (y6 @zJ (y6 @bd az))))
  repeat' ((first |(with_reducible refine .guard (fun hb =>?_) (fun hb =>?_) <;>try simp only[hb])|refine U.aE (by decide +kernel) rfl fun K hK =>?_|refine .flat _ (hC) rfl ?_|refine .lead _ (h126) ?_|(refine .aA [0,1,4,5,6,7,8,9,10,11,12,20,28,29,59,75] hK ?_;clear hK K)|(with_reducible refine .done (hK _ ?_);clear hK K)|refine U.of rfl ?_|(with_reducible refine au.aD (fun h =>?_) (fun h =>?_) <;>try simp only[h])) <;>try simp only[aF,R,simprocAttr])
  all_goals clear R
  refine U.loop (tM s t) (EP t) (fun x=>7-x.l.length) ⟨m0,[],v0⟩ ⟨by simp,by simp only;omega,?_⟩ ?_ ?_
  ·rw[hu0,wN hw ho];rfl
  ·simp only[tM,gM];refine bw.cN ?_ ?_ ?_ ?_ <;>simp[cj,ct,cq,bU,aH,cg,dT,I.only,ai.only,bK,rz]
   all_goals rfl
  rintro ⟨n0,l,u⟩ ⟨hl7,hul,htk⟩;simp only at hl7 hul htk;rw[hu0] at htk;simp only[tM,gM];by_cases hlt7:l.length<7
  ·have hlc:decide ((l.length:Int)<7)=true:=decide_eq_true (by omega);have hib:=fun {y:Option I} =>oc 1 (dH l) (y:=y) (show (0:Int)≤(l.length:Int)∧(l.length:Int)<(7:Nat) by omega) rfl;have hat:=fun p=>fQ (p:=p) (dH l) hlt7;have hst:=fun A n v u rest=>YN (A:=A) (n:=n) hlt7 (v:=v) (u:=u) (rest:=rest);have hws:=eG (i:=l.length) (by omega);have e7:7-l.length=(7-(l++[(0:Int)]).length)+1:=by simp;omega
   rcases zA u with ⟨w,v,m,hw1,ho1,hv1⟩ | hno
   ·have h126':=wZ (ak.of u) (by rw[ak.c8];omega) w v m (by rw[ak.c8];exact hw1) ho1;have R:=y6 @hlc (y6 @hib (y6 @hat (y6 @hst (y6 @hws (y6 @Int.toNat_natCast (y6 @bd az))))))
    repeat' ((first |(with_reducible refine .guard (fun hb =>?_) (fun hb =>?_) <;>try simp only[hb])|refine U.aE (by decide +kernel) rfl fun K hK =>?_|refine .lead _ (h126') ?_|(refine .aA [0,1,4,5,6,7,8,9,10,11,12,20,28,29,59,75] hK ?_;clear hK K)|(with_reducible refine .done (hK _ ?_);clear hK K)|refine U.of rfl ?_|(with_reducible refine au.aD (fun h =>?_) (fun h =>?_) <;>try simp only[h])) <;>try simp only[aF,R,simprocAttr])
    all_goals clear R
    refine ⟨⟨n0,l++[m],v⟩,⟨by simp;omega,by simp only;omega,?_⟩,by simp;omega,?_⟩
    ·rw[hu0,htk,e7,wN hw1 ho1];simp only[Z1,zz5,zy6,Option.map_map]
     congr 1
     funext p
     simp
    ·have el:((l++[m]).length:Int)=((l.length+1:Nat):Int):=by simp
     simp only[el];refine bw.cN ?_ ?_ ?_ ?_ <;>simp[cj,ct,cq,bU,aH,cg,dT,I.only,ai.only,bK]
     all_goals rfl
   ·have hn:dE bg s t=none:=by rw[hT,htk,e7,wL hno];rfl
    have R:=y6 @hlc (y6 @hib (y6 @hat (y6 @hst (y6 @hws (y6 @jN (y6 @bd az))))))
    repeat' ((first |(with_reducible refine .guard (fun hb =>?_) (fun hb =>?_) <;>try simp only[hb])|(refine U.lj (gs:=Au) (gs1:=[_,_]) rfl fun K hK =>?_)|refine U.aE (by decide +kernel) rfl fun K hK =>?_|refine .flat _ (hC) rfl ?_|(refine .aA [0,1,4,5,6,7,8,9,10,11,12,20,28,29,59,75] hK ?_;clear hK K)|(with_reducible refine .done (hK _ ?_);clear hK K)|refine U.of rfl ?_|(with_reducible refine au.aD (fun h =>?_) (fun h =>?_) <;>try simp only[h])) <;>try simp only[aF,R,simprocAttr])
    all_goals clear R
    exact .call (BV rfl (by omega) hno (oB hn rfl rfl rfl rfl rfl rfl))
  ·have hlc:decide ((l.length:Int)<7)=false:=decide_eq_false (by omega);have h7:l.length=7:=by omega
   have hib:=fun {k:Int} {y:Option I} (h:(0:Int)≤k∧k<(7:Nat))=>oc 1 (dH l) (y:=y) h rfl;have hi0:=fun {y:Option I} =>hib (k:=0) (y:=y) (by decide);have hi1:=fun {y:Option I} =>hib (k:=1) (y:=y) (by decide);have hi2:=fun {y:Option I} =>hib (k:=2) (y:=y) (by decide);have hi3:=fun {y:Option I} =>hib (k:=3) (y:=y) (by decide);have hi4:=fun {y:Option I} =>hib (k:=4) (y:=y) (by decide);have hi5:=fun {y:Option I} =>hib (k:=5) (y:=y) (by decide);have hi6:=fun {y:Option I} =>hib (k:=6) (y:=y) (by decide);have ha0:=fun p=>fQ (p:=p) (dH l) (show 0<7 by decide);have ha1:=fun p=>fQ (p:=p) (dH l) (show 1<7 by decide);have ha2:=fun p=>fQ (p:=p) (dH l) (show 2<7 by decide);have ha3:=fun p=>fQ (p:=p) (dH l) (show 3<7 by decide);have ha4:=fun p=>fQ (p:=p) (dH l) (show 4<7 by decide);have ha5:=fun p=>fQ (p:=p) (dH l) (show 5<7 by decide);have ha6:=fun p=>fQ (p:=p) (dH l) (show 6<7 by decide);rw[h7,Nat.sub_self,eZ,Z9,List.append_nil] at htk;clear hT;have hT:=X2 (s:=s) hl (hu0▸htk);have hmk:=LM (n0:=n0) (u:=u) h7;have f80:=o7 (fw (n0::l) u);generalize fw (n0::l) u=r at *;have hstr:=fun A n b rest=>dJ.2 A n b rest r _ hmk;cases ho2:bg r
   ·have hn:dE bg s t=none:=by rw[hT,if_neg (by simp[ho2])]
    rw[ho2] at f80;have R:=y6 @hlc (y6 @hi0 (y6 @hi1 (y6 @hi2 (y6 @hi3 (y6 @hi4 (y6 @hi5 (y6 @hi6 (y6 @ha0 (y6 @ha1 (y6 @ha2 (y6 @ha3 (y6 @ha4 (y6 @ha5 (y6 @ha6 (y6 @kK (y6 @hstr (y6 @dJ (y6 @jN (y6 @bd az)))))))))))))))))))
    repeat' ((first |(with_reducible refine .guard (fun hb =>?_) (fun hb =>?_) <;>try simp only[hb])|(refine U.lj (gs:=Av) (gs1:=[_,_]) rfl fun K hK =>?_)|refine U.aE (by decide +kernel) rfl fun K hK =>?_|refine .flat _ (f80) rfl ?_|(refine .aA [0,1,4,5,6,7,8,9,10,11,12,20,28,29,59,75] hK ?_;clear hK K)|(with_reducible refine .done (hK _ ?_);clear hK K)|refine U.of rfl ?_|(with_reducible refine au.aD (fun h =>?_) (fun h =>?_) <;>try simp only[h])) <;>try simp only[aF,R,simprocAttr])
    all_goals clear R
    refine mO ?_ (oB hn rfl rfl rfl rfl rfl rfl);rfl
   rw[ho2] at f80;have f81:=o8 s hs r ho2;by_cases hq:cV s r=t
   ·by_cases hz:n0=cO s (cA r)
    ·have hn:gN s t=(r,cO s (cA r),true):=by rw[gN,hT,if_pos ⟨ho2,hq,hz⟩]
     have d1:(n0 != cO s (cA r))=false:=by simp[hz]
     have d2:(decide (cV s r=t))=true:=decide_eq_true hq;have R:=y6 @hlc (y6 @hi0 (y6 @hi1 (y6 @hi2 (y6 @hi3 (y6 @hi4 (y6 @hi5 (y6 @hi6 (y6 @ha0 (y6 @ha1 (y6 @ha2 (y6 @ha3 (y6 @ha4 (y6 @ha5 (y6 @ha6 (y6 @d1 (y6 @d2 (y6 @gO (y6 @kK (y6 @hstr (y6 @dJ (y6 @qD (y6 @jN (y6 @bd az)))))))))))))))))))))))
     repeat' ((first |(with_reducible refine .guard (fun hb =>?_) (fun hb =>?_) <;>try simp only[hb])|refine U.aE (by decide +kernel) rfl fun K hK =>?_|refine .flat _ (f80) rfl ?_|refine .lead _ (f81) ?_|(refine U.jt (gs:=uW) [] [(4,[1900004]),(5,[1900005]),(6,[1900006])] [0,1,2,3,4] (by decide +kernel) (dq.of (by simp[gW,cg,I.only])) fun K hK =>?_;simp only[iA,uW,List.getD_cons_zero,List.getD_cons_succ,R,simprocAttr])|(refine .aA [0,1,4,5,6,7,8,9,10,11,12,20,28,29,59,75] hK ?_;clear hK K)|(with_reducible refine .done (hK _ ?_);clear hK K)|refine U.of rfl ?_|(with_reducible refine au.aD (fun h =>?_) (fun h =>?_) <;>try simp only[h])) <;>try simp only[aF,R,simprocAttr])
     all_goals clear R
     exact ⟨⟨⟨_,rfl,(eD _).trans (eD _).symm⟩,⟨_,rfl,rfl⟩,⟨_,rfl,rfl⟩,trivial⟩,Dy (r:=r) (n:=cO s (cA r)) (b:=true) (show _∧_ by rw[hn];exact ⟨rfl,rfl⟩) rfl rfl rfl rfl rfl rfl⟩
    ·have hn:dE bg s t=none:=by rw[hT,if_neg (fun k=>hz k.2.2)]
     have d1:(n0 != cO s (cA r))=true:=by simp[hz]
     have d2:(decide (cV s r=t))=true:=decide_eq_true hq;have R:=y6 @hlc (y6 @hi0 (y6 @hi1 (y6 @hi2 (y6 @hi3 (y6 @hi4 (y6 @hi5 (y6 @hi6 (y6 @ha0 (y6 @ha1 (y6 @ha2 (y6 @ha3 (y6 @ha4 (y6 @ha5 (y6 @ha6 (y6 @d1 (y6 @d2 (y6 @gO (y6 @kK (y6 @hstr (y6 @dJ (y6 @qD (y6 @jN (y6 @bd az)))))))))))))))))))))))
     repeat' ((first |(with_reducible refine .guard (fun hb =>?_) (fun hb =>?_) <;>try simp only[hb])|(refine U.lj (gs:=uV) (gs1:=[_,_]) rfl fun K hK =>?_)|refine U.aE (by decide +kernel) rfl fun K hK =>?_|refine .flat _ (f80) rfl ?_|refine .lead _ (f81) ?_|(refine .aA [0,1,4,5,6,7,8,9,10,11,12,20,28,29,59,75] hK ?_;clear hK K)|(with_reducible refine .done (hK _ ?_);clear hK K)|refine U.of rfl ?_|(with_reducible refine au.aD (fun h =>?_) (fun h =>?_) <;>try simp only[h])) <;>try simp only[aF,R,simprocAttr])
     all_goals clear R
     refine mO ?_ (oB hn rfl rfl rfl rfl rfl rfl);rfl
   ·have hn:dE bg s t=none:=by rw[hT,if_neg (fun k=>hq k.2.1)]
    have d2:(decide (cV s r=t))=false:=decide_eq_false hq;have R:=y6 @hlc (y6 @hi0 (y6 @hi1 (y6 @hi2 (y6 @hi3 (y6 @hi4 (y6 @hi5 (y6 @hi6 (y6 @ha0 (y6 @ha1 (y6 @ha2 (y6 @ha3 (y6 @ha4 (y6 @ha5 (y6 @ha6 (y6 @d2 (y6 @gO (y6 @kK (y6 @hstr (y6 @dJ (y6 @qD (y6 @jN (y6 @bd az))))))))))))))))))))))
    repeat' ((first |(with_reducible refine .guard (fun hb =>?_) (fun hb =>?_) <;>try simp only[hb])|(refine U.lj (gs:=uV) (gs1:=[_,_]) rfl fun K hK =>?_)|refine U.aE (by decide +kernel) rfl fun K hK =>?_|refine .flat _ (f80) rfl ?_|refine .lead _ (f81) ?_|(refine .aA [0,1,4,5,6,7,8,9,10,11,12,20,28,29,59,75] hK ?_;clear hK K)|(with_reducible refine .done (hK _ ?_);clear hK K)|refine U.of rfl ?_|(with_reducible refine au.aD (fun h =>?_) (fun h =>?_) <;>try simp only[h])) <;>try simp only[aF,R,simprocAttr])
    all_goals clear R
    refine mO ?_ (oB hn rfl rfl rfl rfl rfl rfl);rfl
 ·have hd:decide (t.getLast?=some 10)=false:=decide_eq_false hl;have hn:dE bg s t=none:=by rw[dE,if_neg hl]
  rw[hd] at hC;have R:=y6 @hd (y6 @pz (y6 @jN (y6 @bd az)))
  repeat' ((first |(with_reducible refine .guard (fun hb =>?_) (fun hb =>?_) <;>try simp only[hb])|(refine U.lj (gs:=Aw) (gs1:=[_,_]) rfl fun K hK =>?_)|refine U.aE (by decide +kernel) rfl fun K hK =>?_|refine .flat _ (hC) rfl ?_|(refine .aA [0,1,4,5,6,7,8,9,10,11,12,20,28,29,59,75] hK ?_;clear hK K)|(with_reducible refine .done (hK _ ?_);clear hK K)|refine U.of rfl ?_|(with_reducible refine au.aD (fun h =>?_) (fun h =>?_) <;>try simp only[h])) <;>try simp only[aF,R,simprocAttr])
  all_goals clear R
  refine mO ?_ (oB hn rfl rfl rfl rfl rfl rfl);rfl
theorem FH{s:Int}(hs:0≤s∧s<1000003){t:List UInt8}(ht:t.length≤281474976710656):eJ Tryz.prog 70 [enc s,enc (ak.of t)] [] (fun r os'=>r=kC (gN s t)∧os'=[]):=by
 refine eJ.Xd Tryz.func70 HL Ln Kl (t8 rfl) (t8 rfl) (fun m hm=>by simp[aH,aJ] at hm) (zs:=nw) Vm Ii (by decide) fun hwf W0 bC E1 =>?_;simp only[bB,Z5];clear hwf;refine .hG (by decide +kernel) fun K hK =>?_
 try simp only[As,aZ,simprocAttr]
 refine .done (hK _ ?_);simp only[cT];refine ⟨_,_,mZ,gM default 0 false,[0,1,4,5,6],[enc s,enc (ak.of t),.ptr 1900004 [],.ptr 1900005 [],.ptr 1900006 []],mJ,qj s t,rfl,?_⟩;exact {
  bE:=rfl
  AF:=Vk
  arg:=⟨.inl ⟨rfl,rfl,rfl⟩,.inl ⟨(iP _ _).symm,bK _ _,fh _⟩,.inl ⟨rfl,rfl,rfl⟩,.inl ⟨rfl,rfl,rfl⟩,.inl ⟨rfl,rfl,rfl⟩,trivial⟩
  xL:=Gr s t
  Ec:=rfl
  len:=rfl
  box:=fun q hq=>by
   simp only[mJ,nw,List.zip_cons_cons,List.zip_nil_right,zx4,List.not_mem_nil,or_false] at hq;rcases hq with rfl | rfl | rfl <;>exact ⟨_,rfl,rfl⟩
  lO:=fun m hm=>by
   have:=kX.1 hm;exact ⟨Nat.le_trans (t8 rfl:_≤1000000) (by omega),by omega⟩
  rest:=fun W D E d=>Yj hs ht W D E _ d
  kJ:=Gq s t }
theorem xh{s:Int}(hs:0≤s∧s<1000003){t:List UInt8}(ht:t.length≤281474976710656):aM Tryz.prog 70 [enc s,enc (ak.of t)] (kC (gN s t)):=aM.By (FH hs ht)
def fM(s:Int)(t:List UInt8):aj×Int×Int:=if dS 0 1000002 s=false then (default,0,1) else match dE bg s t with
 |some (r,n)=>(r,n,0)
 |none=>(default,0,87)
theorem Fp(s:Int)(t:List UInt8)(ht:t.length≤281474976710656):aM Tryz.prog 31 [enc s,enc (ak.of t)] (.tuple [enc (fM s t).1,enc (fM s t).2.1,enc (fM s t).2.2]):=by
 refine aM.bL Tryz.func31 HD IX Ke (t8 rfl) (fun hwf W0 bC E1 =>?_);simp only[yF,CL,bB,Z5];clear hwf;have f1:=xl s;cases q1:dS 0 1000002 s
 ·rw[q1] at f1;have e:fM s t=(default,0,1):=by rw[fM,if_pos q1]
  rw[e];have R:=y6 @ef (y6 @dJ az)
  repeat' ((first |refine U.aE (by decide +kernel) rfl fun K hK =>?_|refine .flat _ (f1) rfl ?_|(refine .aA [0,1,4,5,6,7,8,9,12,22] hK ?_;clear hK K)|(with_reducible refine .done (hK _ ?_);clear hK K)|refine U.of rfl ?_|(with_reducible refine au.aD (fun h =>?_) (fun h =>?_) <;>try simp only[h])) <;>try simp only[aF,R,simprocAttr])
  all_goals clear R
  all_goals rfl
 rw[q1] at f1;have f2:=xh (s:=s) (by have:=mz.1 q1;omega) ht;rw[kC] at f2;cases h:dE bg s t with
 |none =>
  have e:fM s t=(default,0,87):=by rw[fM,if_neg (by simp[q1]),h]
  have e2:gN s t=(default,0,false):=by rw[gN,h]
  rw[e];rw[e2] at f2;have R:=y6 @ef (y6 @dJ az)
  repeat' ((first |refine U.aE (by decide +kernel) rfl fun K hK =>?_|refine .flat _ (f1) rfl ?_|refine .lead _ (f2) ?_|(refine .aA [0,1,4,5,6,7,8,9,12,22] hK ?_;clear hK K)|(with_reducible refine .done (hK _ ?_);clear hK K)|refine U.of rfl ?_|(with_reducible refine au.aD (fun h =>?_) (fun h =>?_) <;>try simp only[h])) <;>try simp only[aF,R,simprocAttr])
  all_goals clear R
  all_goals rfl
 |some p =>
  obtain ⟨r,n⟩:=p;have e:fM s t=(r,n,0):=by rw[fM,if_neg (by simp[q1]),h]
  have e2:gN s t=(r,n,true):=by rw[gN,h]
  rw[e];rw[e2] at f2;have R:=y6 @ef (y6 @dJ az)
  repeat' ((first |refine U.aE (by decide +kernel) rfl fun K hK =>?_|refine .flat _ (f1) rfl ?_|refine .lead _ (f2) ?_|(refine .aA [0,1,4,5,6,7,8,9,12,22] hK ?_;clear hK K)|(with_reducible refine .done (hK _ ?_);clear hK K)|refine U.of rfl ?_|(with_reducible refine au.aD (fun h =>?_) (fun h =>?_) <;>try simp only[h])) <;>try simp only[aF,R,simprocAttr])
  all_goals clear R
  all_goals rfl
def gv(f:Nat):Nat→Nat→Nat→List UInt8→Int×Int×Bool
 |_,_,_,[]=>(0,0,false)
 |0,_,_,_::_=>(0,0,false)
 |k+1,n,i,c::u=>if c.toNat=32 then ((n:Int),((i+1:Nat):Int),decide (f<i)) else if fT c=true then gv f k (10*n+(c.toNat-48)) (i+1) u else (0,0,false)
def wS(x:Int×Int×Bool):I:=.tuple [.int .i64 x.1,.int .i64 x.2.1,.bool x.2.2]
def tN(f:Nat)(t:List UInt8)(x:Nat×Nat):ab:=ay [(0,enc (ak.of t)),(1,.int .i64 (f:Int)),(7,.int .i64 (x.2:Int)),(8,.int .i64 ((f+x.1:Nat):Int))] []
def ER(f:Nat)(t:List UInt8)(x:Nat×Nat):Prop:=x.1≤9∧f+x.1≤t.length∧x.2<10^x.1∧gv f 9 0 f (t.drop f)=gv f (9-x.1) x.2 (f+x.1) (t.drop (f+x.1))
theorem Fy(t:List UInt8)(ht:t.length≤281474976710656)(f:Nat)(hf:f≤t.length):aM Tryz.prog 84 [enc (ak.of t),.int .i64 (f:Int)] (wS (gv f 9 0 f (t.drop f))):=by
 refine aM.bL Tryz.func84 HY Jg Kz (t8 rfl) (fun hwf W0 bC E1 =>?_);simp only[yU,C4,bB,Z5];clear hwf;have hl:=kv t;have R:=y6 @bd az
 repeat' ((first |(with_reducible refine .guard (fun hb =>?_) (fun hb =>?_) <;>try simp only[hb])|refine U.aE (by decide +kernel) rfl fun K hK =>?_|(refine .aA [0,1,4,5,6,7,8,19,25,41] hK ?_;clear hK K)|(with_reducible refine .done (hK _ ?_);clear hK K)|refine U.of rfl ?_|(with_reducible refine au.aD (fun h =>?_) (fun h =>?_) <;>try simp only[h])) <;>try simp only[aF,R,simprocAttr])
 all_goals clear R
 refine U.loop (tN f t) (ER f t) (fun x=>9-x.1) (0,0) ⟨by simp,by simpa using hf,by simp,by simp⟩ ?_ ?_
 ·simp only[tN];refine bw.cN ?_ ?_ ?_ ?_ <;>simp[cj,ct,cq,bU,cg,I.only,bK]
 rintro ⟨j,n⟩ ⟨h1,h2,h3,h4⟩;simp only at h1 h2 h3 h4;simp only[tN];have hp:(10:Nat)^j≤10^9:=Nat.pow_le_pow_right (by omega) h1;have hp2:(10:Nat)^(j+1)=10*10^j:=by rw[Nat.pow_succ,Nat.mul_comm]
 have hn9:n<1000000000:=by omega
 have hw9:IntKind.i64.wrap ((f:Int)+9)=((f+9:Nat):Int):=by rw[dC _ (by omega) (by omega)];rfl
 rw[h4];by_cases hlt:f+j<t.length
 ·have hlc:=eP hlt;by_cases hj:j<9
  ·have hjc:decide (((f+j:Nat):Int)<((f+9:Nat):Int))=true:=decide_eq_true (by omega);have he:=oL t hlt;have hw:=eG (i:=f+j) (by omega);have hd:t.drop (f+j)=t[f+j]::t.drop (f+j+1):=List.drop_eq_getElem_cons hlt;rw[hd,show 9-j=(9-(j+1))+1 by omega,gv];generalize t[f+j]=c at *;have hc:=c.toNat_lt;by_cases q1:c.toNat=32
   ·have qe:((c.toNat:Int)==32)=true:=by simp;omega
    have qg:decide (((f+j:Nat):Int)>(f:Int))=decide (f<f+j):=by rw[decide_eq_decide];omega
    rw[if_pos q1];have R:=y6 @hl (y6 @hlc (y6 @hjc (y6 @hw9 (y6 @he (y6 @hw (y6 @qe (y6 @qg (y6 @bd az))))))))
    repeat' ((first |(with_reducible refine .guard (fun hb =>?_) (fun hb =>?_) <;>try simp only[hb])|refine U.aE (by decide +kernel) rfl fun K hK =>?_|(refine .aA [0,1,4,5,6,7,8,19,25,41] hK ?_;clear hK K)|(with_reducible refine .done (hK _ ?_);clear hK K)|refine U.of rfl ?_|(with_reducible refine au.aD (fun h =>?_) (fun h =>?_) <;>try simp only[h])) <;>try simp only[aF,R,simprocAttr])
    all_goals clear R
    all_goals rfl
   have qe:((c.toNat:Int)==32)=false:=by simp;omega
   rw[if_neg q1];by_cases q2:(c.toNat:Int)<48
   ·rw[if_neg (by simp[fT];omega)];have qd:decide ((c.toNat:Int)<48)=true:=decide_eq_true q2;have R:=y6 @hl (y6 @hlc (y6 @hjc (y6 @hw9 (y6 @he (y6 @hw (y6 @qe (y6 @qd (y6 @bd az))))))))
    repeat' ((first |(with_reducible refine .guard (fun hb =>?_) (fun hb =>?_) <;>try simp only[hb])|refine U.aE (by decide +kernel) rfl fun K hK =>?_|(refine .aA [0,1,4,5,6,7,8,19,25,41] hK ?_;clear hK K)|(with_reducible refine .done (hK _ ?_);clear hK K)|refine U.of rfl ?_|(with_reducible refine au.aD (fun h =>?_) (fun h =>?_) <;>try simp only[h])) <;>try simp only[aF,R,simprocAttr])
    all_goals clear R
    all_goals rfl
   have qd:decide ((c.toNat:Int)<48)=false:=decide_eq_false q2;by_cases q3:(c.toNat:Int)>57
   ·rw[if_neg (by simp[fT];omega)];have qf:decide ((c.toNat:Int)>57)=true:=decide_eq_true q3;have R:=y6 @hl (y6 @hlc (y6 @hjc (y6 @hw9 (y6 @he (y6 @hw (y6 @qe (y6 @qd (y6 @qf (y6 @bd az)))))))))
    repeat' ((first |(with_reducible refine .guard (fun hb =>?_) (fun hb =>?_) <;>try simp only[hb])|refine U.aE (by decide +kernel) rfl fun K hK =>?_|(refine .aA [0,1,4,5,6,7,8,19,25,41] hK ?_;clear hK K)|(with_reducible refine .done (hK _ ?_);clear hK K)|refine U.of rfl ?_|(with_reducible refine au.aD (fun h =>?_) (fun h =>?_) <;>try simp only[h])) <;>try simp only[aF,R,simprocAttr])
    all_goals clear R
    all_goals rfl
   have qf:decide ((c.toNat:Int)>57)=false:=decide_eq_false q3;rw[if_pos (by simp[fT];omega)];have g1:IntKind.i64.wrap (10*(n:Int))=10*(n:Int):=dC _ (by omega) (by omega);have g2:IntKind.u8.wrap ((c.toNat:Int)-48)=(c.toNat:Int)-48:=EC (by omega);have g3:IntKind.i64.wrap ((c.toNat:Int)-48)=(c.toNat:Int)-48:=dC _ (by omega) (by omega);have g4:IntKind.i64.wrap (10*(n:Int)+((c.toNat:Int)-48))=((10*n+(c.toNat-48):Nat):Int):=by rw[dC _ (by omega) (by omega)];omega
   have R:=y6 @hl (y6 @hlc (y6 @hjc (y6 @hw9 (y6 @he (y6 @hw (y6 @qe (y6 @qd (y6 @qf (y6 @g1 (y6 @g2 (y6 @g3 (y6 @g4 (y6 @bd az)))))))))))))
   repeat' ((first |(with_reducible refine .guard (fun hb =>?_) (fun hb =>?_) <;>try simp only[hb])|refine U.aE (by decide +kernel) rfl fun K hK =>?_|(refine .aA [0,1,4,5,6,7,8,19,25,41] hK ?_;clear hK K)|(with_reducible refine .done (hK _ ?_);clear hK K)|refine U.of rfl ?_|(with_reducible refine au.aD (fun h =>?_) (fun h =>?_) <;>try simp only[h])) <;>try simp only[aF,R,simprocAttr])
   all_goals clear R
   refine ⟨(j+1,10*n+(c.toNat-48)),⟨by simp only;omega,by simp only;omega,by simp only;omega,?_⟩,by simp only;omega,?_⟩
   ·rw[h4,hd,show 9-j=(9-(j+1))+1 by omega,gv,if_neg q1,if_pos (by simp[fT];omega)];rfl
   ·simp only[];clear hd h4;refine bw.cN ?_ ?_ ?_ ?_ <;>simp[cj,ct,cq,bU,cg,I.only,bK]
    all_goals rfl
  ·have hjc:decide (((f+j:Nat):Int)<((f+9:Nat):Int))=false:=decide_eq_false (by omega);have hd:t.drop (f+j)=t[f+j]::t.drop (f+j+1):=List.drop_eq_getElem_cons hlt;rw[hd,show 9-j=0 by omega,gv];have R:=y6 @hl (y6 @hlc (y6 @hjc (y6 @hw9 (y6 @bd az))))
   repeat' ((first |(with_reducible refine .guard (fun hb =>?_) (fun hb =>?_) <;>try simp only[hb])|refine U.aE (by decide +kernel) rfl fun K hK =>?_|(refine .aA [0,1,4,5,6,7,8,19,25,41] hK ?_;clear hK K)|(with_reducible refine .done (hK _ ?_);clear hK K)|refine U.of rfl ?_|(with_reducible refine au.aD (fun h =>?_) (fun h =>?_) <;>try simp only[h])) <;>try simp only[aF,R,simprocAttr])
   all_goals clear R
   all_goals rfl
 ·have hlc:=fu hlt;rw[List.drop_eq_nil_of_le (by omega),gv];have R:=y6 @hl (y6 @hlc (y6 @bd az))
  repeat' ((first |(with_reducible refine .guard (fun hb =>?_) (fun hb =>?_) <;>try simp only[hb])|refine U.aE (by decide +kernel) rfl fun K hK =>?_|(refine .aA [0,1,4,5,6,7,8,19,25,41] hK ?_;clear hK K)|(with_reducible refine .done (hK _ ?_);clear hK K)|refine U.of rfl ?_|(with_reducible refine au.aD (fun h =>?_) (fun h =>?_) <;>try simp only[h])) <;>try simp only[aF,R,simprocAttr])
  all_goals clear R
  all_goals rfl
theorem vD(f:Nat):∀ (k n i:Nat) (u w v:List UInt8) (m:Nat),cG 32 u=some (w,v)→ed n w=some m→w.length<k→gv f k n i u=((m:Int),((i+w.length+1:Nat):Int),decide (f<i+w.length))
 |0,_,_,_,_,_,_,_,_,h=>by omega
 |k+1,n,i,[],w,v,m,h,_,_=>by simp[cG] at h
 |k+1,n,i,c::u,w,v,m,h,hd,hk=>by
  rw[gv];rw[cG] at h;by_cases q:c=32
  ·rw[if_pos q] at h;cases h;rw[if_pos (by rw[q];rfl)];simp only[ed,v6] at hd;subst hd;simp
  ·rw[if_neg q] at h;have q':¬ c.toNat=32:=fun e=>q (UInt8.toNat_inj.1 e);rw[if_neg q'];cases h2:cG 32 u with
   |none=>rw[h2] at h;cases h
   |some p =>
    obtain ⟨w2,v2⟩:=p;rw[h2,Z9] at h;cases h;rw[ed] at hd;by_cases q2:fT c=true
    ·rw[if_pos q2] at hd ⊢;rw[Nat.mul_comm] at hd;rw[vD f k _ (i+1) u w2 _ m h2 hd (by simp only[zz5] at hk;omega)];simp only[zz5,Prod.mk.injEq,true_and,decide_eq_decide];exact ⟨by omega,by omega⟩
    ·rw[if_neg q2] at hd;cases hd
theorem Bv(f:Nat):∀ (k n i:Nat) (u:List UInt8),(gv f k n i u).2.2=true→∃ w v m,cG 32 u=some (w,v)∧ed n w=some m∧w.length<k∧f<i+w.length
 |k,n,i,[],h=>by cases k <;>simp[gv] at h
 |0,n,i,c::u,h=>by simp[gv] at h
 |k+1,n,i,c::u,h=>by
  rw[gv] at h;by_cases q:c.toNat=32
  ·rw[if_pos q] at h;have hc:c=32:=UInt8.toNat_inj.1 q;exact ⟨[],u,n,by rw[cG,if_pos hc],rfl,by simp,by simpa using h⟩
  ·rw[if_neg q] at h;by_cases q2:fT c=true
   ·rw[if_pos q2] at h;obtain ⟨w,v,m,h1,h2,h3,h4⟩:=Bv f k _ _ u h;refine ⟨c::w,v,m,?_,?_,by simp only[zz5];omega,by simp only[zz5];omega⟩
    ·rw[cG,if_neg (fun e=>q (by rw[e];rfl)),h1];rfl
    ·rw[ed,if_pos q2,Nat.mul_comm];exact h2
   ·rw[if_neg q2] at h;cases h
theorem Ll(t:List UInt8)(f:Nat):(∃ w v m,cG 32 (t.drop f)=some (w,v)∧hE w=some m∧gv f 9 0 f (t.drop f)=(m,((f+w.length+1:Nat):Int),true)∧v=t.drop (f+w.length+1)∧f+w.length+1≤t.length) ∨
  ((∀ w v,cG 32 (t.drop f)=some (w,v)→hE w=none)∧∃ a b,gv f 9 0 f (t.drop f)=(a,b,false)):=by
 cases h:(gv f 9 0 f (t.drop f)).2.2
 ·refine .inr ⟨fun w v hw =>?_,_,_,by rw[←h]⟩;rw[hE];split
  ·rfl
  rename_i hl;cases hd:ed 0 w with
  |none=>rfl
  |some m =>
   rw[vD f 9 0 f _ w v m hw hd (by omega)] at h;have:w.length≠0:=fun e=>hl (.inl (List.length_eq_zero_iff.1 e));have h':=of_decide_eq_false h;omega
 ·obtain ⟨w,v,m,h1,h2,h3,h4⟩:=Bv f _ _ _ _ h;refine .inl ⟨w,v,(m:Int),h1,?_,?_,?_⟩
  ·rw[hE,if_neg,h2];rfl;rintro (e | e)
   ·subst e;simp at h4
   ·omega
  ·rw[vD f 9 0 f _ w v m h1 h2 h3,decide_eq_true h4]
  ·rcases nP 32 (t.drop f) with ⟨e,_⟩ | ⟨i,h0,h5,e⟩
   ·rw[e] at h1;cases h1
   ·rw[e] at h1;cases h1;have hw:(List.take i (t.drop f)).length=i:=by rw[Z7];omega
    rw[hw,List.drop_drop];refine ⟨congrArg (fun k=>t.drop k) (by omega),?_⟩;rw[zx5] at h0;omega
def dI(l:List Int):dW 8 Int:=⟨(l++List.replicate 8 0).take 8,by simp⟩
theorem XC{l:List Int}(h:l.length<8)(v:Int):(⟨(dI l).l.set l.length v,by simp[(dI l).h]⟩:dW 8 Int)=dI (l++[v]):=by
 simp only[dI,dW.mk.injEq];refine List.ext_getElem (by simp) fun i h1 h2 =>?_;simp only[Z7,Z1,List.length_replicate,List.length_set,zz5,zy6] at h1 h2;simp only[List.getElem_set,List.getElem_take,List.getElem_append];by_cases e:l.length=i
 ·subst e;simp
 ·by_cases k:i<l.length
  ·rw[if_neg e,dif_pos k,dif_pos (by simp;omega),dif_pos k]
  ·rw[if_neg e,dif_neg k,dif_neg (by simp;omega)];simp only[List.getElem_replicate]
theorem LP:I.agg [.int .i64 0,.int .i64 0,.int .i64 0,.int .i64 0,.int .i64 0,.int .i64 0,.int .i64 0,.int .i64 0]=enc (dI []):=rfl
theorem XB{l:List Int}(h:l.length=8)(k:Nat):(dI l).g k=l.getD k 0:=by
 simp only[dW.g,dI];rw[List.take_left' h]
theorem YF{l:List Int}(h:l.length<8)(v:Int):(enc (dI l):I).du [l.length] (.int .i64 v)=enc (dI (l++[v])):=by
 have h1:(enc (dI l):I).db=some ((dI l).l.map enc):=rfl;rw[ta,h1];simp only[nh,u4 (dI l) h,oM,fo];rw[←XC h]
 change I.agg _=I.agg (((dI l).l.set l.length v).map enc)
 rw[List.map_set];rfl
theorem YO{A:ab}{n:Nat}{l:List Int}(h:l.length<8){v u:Int}{rest:List av} : ev A none n [l.length] (enc (dI l)) (.int .i64 v) rest (some (.int .i64 u))=aq rest (A.aP n (.box (enc (dI (l++[v]))))):=by
 rw[fq (s:=none) (v:=.int .i64 v) (old:=.int .i64 u) rfl rfl rfl,YF h]
theorem LN{l:List Int}{u:List UInt8}(h:l.length=8):I.agg [.agg [.int .i64 ((dI l).g 1),.int .i64 ((dI l).g 2)],.int .i64 ((dI l).g 3),.int .i64 ((dI l).g 4),.int .i64 ((dI l).g 5),.agg [.int .i64 ((dI l).g 6),.int .i64 ((dI l).g 7)],enc (ak.of u)]=enc (fw l u):=by
 simp only[XB h];rfl
theorem X3{s:Int}{t u:List UInt8}{l:List Int}(hp:eZ hE 8 t=some (l,u)) :
  js bg s t=if t.getLast?=some 10∧u≠[] then (if bg (fw l u.dropLast)=true∧cV s (fw l u.dropLast)=t then some (fw l u.dropLast,cO s (cA (fw l u.dropLast))) else none) else none:=by
 rw[js,hp,zx1];rfl
def oE(s:Int)(t:List UInt8):aj×Int×Int:=match js bg s t with
 |some (r,n)=>(r,n,0)
 |none=>(default,0,87)
theorem qm{s:Int}{t:List UInt8}(h:js bg s t=none):oE s t=(default,0,87):=by rw[oE,h]
theorem X1{s:Int}(hs:dS 0 1000002 s=true)(t:List UInt8):fM s t=oE s t:=by
 rw[fM,if_neg (by simp[hs]),X5 (ok:=bg) (by have:=mz.1 hs;omega) (fun r h=>qb h),oE];all_goals (cases js bg s t <;>rfl)
def wR(x:aj×Int×Int):I:=.tuple [enc x.1,enc x.2.1,enc x.2.2]
def tL(s:Int)(t:List UInt8)(x:List Int×Nat):ab:=ay [(0,enc s),(1,enc (ak.of t)),(4,.ptr 4 []),(7,.ptr 7 []),(8,.int .i64 (x.2:Int)),(9,.int .i64 (x.1.length:Int))] [(4,.box (enc (default:aj))),(7,.box (enc (dI x.1)))]
def EO(t:List UInt8)(x:List Int×Nat):Prop:=x.1.length≤8∧x.2≤t.length∧eZ hE 8 t=(eZ hE (8-x.1.length) (t.drop x.2)).map fun p=>(x.1++p.1,p.2)
theorem Fq(s:Int)(t:List UInt8)(ht:t.length≤281474976710656):aM Tryz.prog 32 [enc s,enc (ak.of t)] (wR (fM s t)):=by
 refine aM.bL Tryz.func32 HE IY Kf (t8 rfl) (fun hwf W0 bC E1 =>?_);simp only[yG,CM,bB,Z5];clear hwf;have f1:=lD s 0 1000002;cases q1:dS 0 1000002 s
 ·rw[q1] at f1;have e:fM s t=(default,0,1):=by rw[fM,if_pos q1]
  rw[e];have R:=y6 @ef (y6 @dJ az)
  repeat' ((first |(with_reducible refine .guard (fun hb =>?_) (fun hb =>?_) <;>try simp only[hb])|refine U.aE (by decide +kernel) rfl fun K hK =>?_|refine .flat _ (f1) rfl ?_|(refine .aA [0,1,4,5,6,7,8,9,10,11,12,13,14,15,18,21,32,50,77,87] hK ?_;clear hK K)|(with_reducible refine .done (hK _ ?_);clear hK K)|refine U.of rfl ?_|(with_reducible refine au.aD (fun h =>?_) (fun h =>?_) <;>try simp only[h])) <;>try simp only[aF,R,simprocAttr])
  all_goals clear R
  all_goals rfl
 rw[q1] at f1;rw[X1 q1];have hs:=mz.1 q1;have R:=y6 @ef (y6 @LP (y6 @dJ az))
 repeat' ((first |(with_reducible refine .guard (fun hb =>?_) (fun hb =>?_) <;>try simp only[hb])|refine U.aE (by decide +kernel) rfl fun K hK =>?_|refine .flat _ (f1) rfl ?_|(refine .aA [0,1,4,5,6,7,8,9,10,11,12,13,14,15,18,21,32,50,77,87] hK ?_;clear hK K)|(with_reducible refine .done (hK _ ?_);clear hK K)|refine U.of rfl ?_|(with_reducible refine au.aD (fun h =>?_) (fun h =>?_) <;>try simp only[h])) <;>try simp only[aF,R,simprocAttr])
 all_goals clear R
 refine U.loop (tL s t) (EO t) (fun x=>8-x.1.length) ([],0) ⟨by simp,by simp,by simp⟩ ?_ ?_
 ·simp only[tL];refine bw.cN ?_ ?_ ?_ ?_ <;>simp[cj,ct,cq,bU,aH,cg,dT,I.only,ai.only,bK,rz]
  all_goals rfl
 rintro ⟨l,p⟩ ⟨hl8,hp,htk⟩;simp only at hl8 hp htk;simp only[tL];by_cases hlt8:l.length<8
 ·have hlc:decide ((l.length:Int)<8)=true:=decide_eq_true (by omega);have hib:=fun {y:Option I} =>oc 1 (dI l) (y:=y) (show (0:Int)≤(l.length:Int)∧(l.length:Int)<(8:Nat) by omega) rfl;have hat:=fun p=>fQ (p:=p) (dI l) hlt8;have hst:=fun A n v u rest=>YO (A:=A) (n:=n) hlt8 (v:=v) (u:=u) (rest:=rest);have hws:=eG (i:=l.length) (by omega);have e8:8-l.length=(8-(l++[(0:Int)]).length)+1:=by simp;omega
  have f84:=Fy t ht p hp;rcases Ll t p with ⟨w,v,m,hw1,ho1,hn1,hv1,hle⟩ | ⟨hno,a,b,hn1⟩
  ·rw[hn1,wS] at f84;have R:=y6 @hlc (y6 @hib (y6 @hat (y6 @hst (y6 @hws (y6 @Int.toNat_natCast (y6 @ef (y6 @dJ az)))))))
   repeat' ((first |(with_reducible refine .guard (fun hb =>?_) (fun hb =>?_) <;>try simp only[hb])|refine U.aE (by decide +kernel) rfl fun K hK =>?_|refine .lead _ (f84) ?_|(refine .aA [0,1,4,5,6,7,8,9,10,11,12,13,14,15,18,21,32,50,77,87] hK ?_;clear hK K)|(with_reducible refine .done (hK _ ?_);clear hK K)|refine U.of rfl ?_|(with_reducible refine au.aD (fun h =>?_) (fun h =>?_) <;>try simp only[h])) <;>try simp only[aF,R,simprocAttr])
   all_goals clear R
   refine ⟨(l++[m],p+w.length+1),⟨by simp;omega,hle,?_⟩,by simp;omega,?_⟩
   ·rw[htk,e8,wN hw1 ho1,hv1];simp only[Z1,zz5,zy6,Option.map_map]
    congr 1
    funext p
    simp
   ·have el:((l++[m]).length:Int)=((l.length+1:Nat):Int):=by simp
    simp only[el];refine bw.cN ?_ ?_ ?_ ?_ <;>simp[cj,ct,cq,bU,aH,cg,dT,I.only,ai.only,bK]
    all_goals rfl
  ·rw[hn1,wS] at f84;rw[qm (by rw[js,htk,e8,wL hno];rfl)];have R:=y6 @hlc (y6 @hib (y6 @hat (y6 @hst (y6 @hws (y6 @Int.toNat_natCast (y6 @ef (y6 @dJ az)))))))
   repeat' ((first |(with_reducible refine .guard (fun hb =>?_) (fun hb =>?_) <;>try simp only[hb])|refine U.aE (by decide +kernel) rfl fun K hK =>?_|refine .lead _ (f84) ?_|(refine .aA [0,1,4,5,6,7,8,9,10,11,12,13,14,15,18,21,32,50,77,87] hK ?_;clear hK K)|(with_reducible refine .done (hK _ ?_);clear hK K)|refine U.of rfl ?_|(with_reducible refine au.aD (fun h =>?_) (fun h =>?_) <;>try simp only[h])) <;>try simp only[aF,R,simprocAttr])
   all_goals clear R
   all_goals rfl
 ·have hlc:decide ((l.length:Int)<8)=false:=decide_eq_false (by omega);have h8:l.length=8:=by omega
  have hib:=fun {k:Int} {y:Option I} (h:(0:Int)≤k∧k<(8:Nat))=>oc 1 (dI l) (y:=y) h rfl;have hi1:=fun {y:Option I} =>hib (k:=1) (y:=y) (by decide);have hi2:=fun {y:Option I} =>hib (k:=2) (y:=y) (by decide);have hi3:=fun {y:Option I} =>hib (k:=3) (y:=y) (by decide);have hi4:=fun {y:Option I} =>hib (k:=4) (y:=y) (by decide);have hi5:=fun {y:Option I} =>hib (k:=5) (y:=y) (by decide);have hi6:=fun {y:Option I} =>hib (k:=6) (y:=y) (by decide);have hi7:=fun {y:Option I} =>hib (k:=7) (y:=y) (by decide);have ha1:=fun p=>fQ (p:=p) (dI l) (show 1<8 by decide);have ha2:=fun p=>fQ (p:=p) (dI l) (show 2<8 by decide);have ha3:=fun p=>fQ (p:=p) (dI l) (show 3<8 by decide);have ha4:=fun p=>fQ (p:=p) (dI l) (show 4<8 by decide);have ha5:=fun p=>fQ (p:=p) (dI l) (show 5<8 by decide);have ha6:=fun p=>fQ (p:=p) (dI l) (show 6<8 by decide);have ha7:=fun p=>fQ (p:=p) (dI l) (show 7<8 by decide);rw[h8,Nat.sub_self,eZ,Z9,List.append_nil] at htk;have hT:=X3 (s:=s) htk;have hne:t≠[]:=fun e=>by rw[e] at htk;cases htk
  have hpos:0<t.length:=zx2.2 hne;have hlen:=kv t;have hw1:IntKind.i64.wrap ((t.length:Int)-1)=((t.length-1:Nat):Int):=by rw[dC _ (by omega) (by omega)];omega
  have he:=oL t (i:=t.length-1) (by omega);have hgl:t.getLast?=some (t[t.length-1]'(by omega)):=by rw[List.getLast?_eq_getElem?,zz2]
  rw[hgl] at hT;generalize (t[t.length-1]'(by omega))=c at *;by_cases qc:c=10
  ·have q2:((c.toNat:Int) != 10)=false:=by rw[qc];rfl
   by_cases qp:p<t.length
   ·have q3:decide ((p:Int)>((t.length-1:Nat):Int))=false:=decide_eq_false (by omega);rw[if_pos ⟨by rw[qc],by simp;omega⟩] at hT;have hss:=DU (ak.of t) (i:=p) (j:=t.length-1) (by omega) (by rw[ak.c8];omega);have hdl:(t.drop p).take (t.length-1-p)=(t.drop p).dropLast:=by rw[List.dropLast_eq_take,zx5];congr 1;omega
    rw[ak.c8,hdl] at hss;generalize (t.drop p).dropLast=u at *;have hmk:=LN (u:=u) h8;generalize fw l u=r at *;have f34:=xg r;have hstr:=fun A n b rest=>dJ.2 A n b rest r _ hmk;cases ho:bg r
    ·rw[show iN r=80 by simp[iN,ho]] at f34;rw[if_neg (by simp[ho])] at hT;rw[qm hT];have R:=y6 @hlc (y6 @hlen (y6 @hw1 (y6 @he (y6 @q2 (y6 @q3 (y6 @hi1 (y6 @hi2 (y6 @hi3 (y6 @hi4 (y6 @hi5 (y6 @hi6 (y6 @hi7 (y6 @ha1 (y6 @ha2 (y6 @ha3 (y6 @ha4 (y6 @ha5 (y6 @ha6 (y6 @ha7 (y6 @hss (y6 @kK (y6 @hstr (y6 @ef (y6 @dJ (y6 @bd az)))))))))))))))))))))))))
     repeat' ((first |(with_reducible refine .guard (fun hb =>?_) (fun hb =>?_) <;>try simp only[hb])|refine U.aE (by decide +kernel) rfl fun K hK =>?_|refine .flat _ (f34) rfl ?_|(refine .aA [0,1,4,5,6,7,8,9,10,11,12,13,14,15,18,21,32,50,77,87] hK ?_;clear hK K)|(with_reducible refine .done (hK _ ?_);clear hK K)|refine U.of rfl ?_|(with_reducible refine au.aD (fun h =>?_) (fun h =>?_) <;>try simp only[h])) <;>try simp only[aF,R,simprocAttr])
     all_goals clear R
     all_goals rfl
    rw[show iN r=0 by simp[iN,ho]] at f34;have f83:=xm s (by omega) r ho;by_cases hq:cV s r=t
    ·rw[if_pos ⟨ho,hq⟩] at hT;rw[show oE s t=(r,cO s (cA r),0) by rw[oE,hT]];have d2:(decide (cV s r=t))=true:=decide_eq_true hq;have R:=y6 @hlc (y6 @hlen (y6 @hw1 (y6 @he (y6 @q2 (y6 @q3 (y6 @hi1 (y6 @hi2 (y6 @hi3 (y6 @hi4 (y6 @hi5 (y6 @hi6 (y6 @hi7 (y6 @ha1 (y6 @ha2 (y6 @ha3 (y6 @ha4 (y6 @ha5 (y6 @ha6 (y6 @ha7 (y6 @hss (y6 @d2 (y6 @gO (y6 @kK (y6 @hstr (y6 @ef (y6 @dJ (y6 @bd az)))))))))))))))))))))))))))
     repeat' ((first |(with_reducible refine .guard (fun hb =>?_) (fun hb =>?_) <;>try simp only[hb])|refine U.aE (by decide +kernel) rfl fun K hK =>?_|refine .flat _ (f34) rfl ?_|refine .lead _ (f83) ?_|(refine .aA [0,1,4,5,6,7,8,9,10,11,12,13,14,15,18,21,32,50,77,87] hK ?_;clear hK K)|(with_reducible refine .done (hK _ ?_);clear hK K)|refine U.of rfl ?_|(with_reducible refine au.aD (fun h =>?_) (fun h =>?_) <;>try simp only[h])) <;>try simp only[aF,R,simprocAttr])
     all_goals clear R
     all_goals rfl
    ·rw[if_neg (fun k=>hq k.2)] at hT;rw[qm hT];have d2:(decide (cV s r=t))=false:=decide_eq_false hq;have R:=y6 @hlc (y6 @hlen (y6 @hw1 (y6 @he (y6 @q2 (y6 @q3 (y6 @hi1 (y6 @hi2 (y6 @hi3 (y6 @hi4 (y6 @hi5 (y6 @hi6 (y6 @hi7 (y6 @ha1 (y6 @ha2 (y6 @ha3 (y6 @ha4 (y6 @ha5 (y6 @ha6 (y6 @ha7 (y6 @hss (y6 @d2 (y6 @gO (y6 @kK (y6 @hstr (y6 @ef (y6 @dJ (y6 @bd az)))))))))))))))))))))))))))
     repeat' ((first |(with_reducible refine .guard (fun hb =>?_) (fun hb =>?_) <;>try simp only[hb])|refine U.aE (by decide +kernel) rfl fun K hK =>?_|refine .flat _ (f34) rfl ?_|refine .lead _ (f83) ?_|(refine .aA [0,1,4,5,6,7,8,9,10,11,12,13,14,15,18,21,32,50,77,87] hK ?_;clear hK K)|(with_reducible refine .done (hK _ ?_);clear hK K)|refine U.of rfl ?_|(with_reducible refine au.aD (fun h =>?_) (fun h =>?_) <;>try simp only[h])) <;>try simp only[aF,R,simprocAttr])
     all_goals clear R
     all_goals rfl
   ·have q3:decide ((p:Int)>((t.length-1:Nat):Int))=true:=decide_eq_true (by omega);rw[if_neg (fun k=>k.2 (List.drop_eq_nil_of_le (by omega)))] at hT;rw[qm hT];have R:=y6 @hlc (y6 @hlen (y6 @hw1 (y6 @he (y6 @q2 (y6 @q3 (y6 @ef (y6 @dJ (y6 @bd az))))))))
    repeat' ((first |(with_reducible refine .guard (fun hb =>?_) (fun hb =>?_) <;>try simp only[hb])|refine U.aE (by decide +kernel) rfl fun K hK =>?_|(refine .aA [0,1,4,5,6,7,8,9,10,11,12,13,14,15,18,21,32,50,77,87] hK ?_;clear hK K)|(with_reducible refine .done (hK _ ?_);clear hK K)|refine U.of rfl ?_|(with_reducible refine au.aD (fun h =>?_) (fun h =>?_) <;>try simp only[h])) <;>try simp only[aF,R,simprocAttr])
    all_goals clear R
    all_goals rfl
  ·have q2:((c.toNat:Int) != 10)=true:=by
    have:¬ c.toNat=10:=fun e=>qc (UInt8.toNat_inj.1 e);simp;omega
   rw[if_neg (fun k=>qc (Option.some.inj k.1))] at hT;rw[qm hT];have R:=y6 @hlc (y6 @hlen (y6 @hw1 (y6 @he (y6 @q2 (y6 @ef (y6 @dJ (y6 @bd az)))))))
   repeat' ((first |(with_reducible refine .guard (fun hb =>?_) (fun hb =>?_) <;>try simp only[hb])|refine U.aE (by decide +kernel) rfl fun K hK =>?_|(refine .aA [0,1,4,5,6,7,8,9,10,11,12,13,14,15,18,21,32,50,77,87] hK ?_;clear hK K)|(with_reducible refine .done (hK _ ?_);clear hK K)|refine U.of rfl ?_|(with_reducible refine au.aD (fun h =>?_) (fun h =>?_) <;>try simp only[h])) <;>try simp only[aF,R,simprocAttr])
   all_goals clear R
   all_goals rfl
theorem jy{α:Type}{l:List α}{i:Nat}(h:i<l.length):l.take (i+1)=l.take i++[l[i]]:=List.take_succ_eq_append_getElem h
theorem tk(a:List aj):0≤eA 1 a∧eA 1 a<1000003:=Et a (by omega)
theorem r9{s:Int}(hs:0≤s∧s<1000003){r:aj}(h:bg r=true):(cV s r).length≤240:=by
 have h1:=ua (k:=160) (sE h) (qb h);have h2:=mf hs (cA r);have h3:=pQ (k:=7) (n:=cO s (cA r)) (by omega);simp only[cV,dh,List.flatMap_cons,List.flatMap_nil,Z1,zz5,zy6];omega
theorem tl:∀ (l:List aj) {s:Int},0≤s∧s<1000003→(∀ r∈l,bg r=true)→(eS s l).length≤240*l.length
 | [],_,_,_=>by simp[eS]
 |r::l,s,hs,h=>by
  have h1:=r9 hs (h r (by simp));have h2:=tl l (mf hs (cA r)) fun q hq=>h q (by simp[hq]);simp only[eS,Z1,zz5];omega
theorem E8(l:List aj)(hl:l.length≤1000000000)(h:∀ r∈l,bg r=true):aM Tryz.prog 137 [enc l] (enc (eA 1 l)):=by
 refine aM.bL Tryz.func137 Hd Iv JP (t8 rfl) (fun hwf W0 bC E1 =>?_);simp only[yd,Cm,bB];clear hwf;have R:=az
 repeat' ((first |refine U.aE (by decide +kernel) rfl fun K hK =>?_|(refine .aA [0,2,3,5,6,7,8,9] hK ?_;clear hK K)|(with_reducible refine .done (hK _ ?_);clear hK K)|refine U.of rfl ?_|(with_reducible refine au.aD (fun h =>?_) (fun h =>?_) <;>try simp only[h])) <;>try simp only[aF,R,simprocAttr])
 all_goals clear R
 refine U.loop (fun i:Nat=>ay [(0,enc l),(3,.int .i64 (eA 1 (l.take i))),(6,enc l),(7,.int .i64 l.length),(8,.int .i64 i)] []) (fun i=>i≤l.length) (fun i=>l.length-i) 0 (Nat.zero_le _) ?_ ?_
 ·refine bw.cN ?_ ?_ ?_ ?_ <;>simp[cj,ct,cq,bU,cg,I.only,bK]
  all_goals rfl
 intro i hi;by_cases hlt:i<l.length
 ·have hlc:=eP hlt;have he:=fun A=>fJ (A:=A) 8 hlt rfl;have hw:=eG (i:=i) (by omega);have hsn:=(wP (l.take i) l[i] 1).2;rw[←jy hlt] at hsn;have hok:=h l[i] (List.getElem_mem hlt);have hst:=tk (l.take i);generalize l[i]=r at *;generalize eA 1 (l.take i)=z at *;have f:=o8 z hst r hok;have R:=y6 @hlc (y6 @he (y6 @hw (y6 @ef (y6 @dJ az))))
  repeat' ((first |refine U.aE (by decide +kernel) rfl fun K hK =>?_|refine .lead _ (f) ?_|(refine .aA [0,2,3,5,6,7,8,9] hK ?_;clear hK K)|(with_reducible refine .done (hK _ ?_);clear hK K)|refine U.of rfl ?_|(with_reducible refine au.aD (fun h =>?_) (fun h =>?_) <;>try simp only[h])) <;>try simp only[aF,R,simprocAttr])
  all_goals clear R
  refine ⟨i+1,by omega,by omega,?_⟩;rw[hsn];refine bw.cN ?_ ?_ ?_ ?_ <;>simp[cj,ct,cq,bU,cg,I.only,bK]
  all_goals rfl
 ·have hlc:=fu hlt;have hge:i=l.length:=by omega
  subst hge;rw[List.take_length];have R:=y6 @hlc az
  repeat' ((first |refine U.aE (by decide +kernel) rfl fun K hK =>?_|(refine .aA [0,2,3,5,6,7,8,9] hK ?_;clear hK K)|(with_reducible refine .done (hK _ ?_);clear hK K)|refine U.of rfl ?_|(with_reducible refine au.aD (fun h =>?_) (fun h =>?_) <;>try simp only[h])) <;>try simp only[aF,R,simprocAttr])
  all_goals clear R
  all_goals rfl
theorem Zi(l:List aj)(hl:l.length≤1000000000)(h:∀ r∈l,bg r=true):aM Tryz.prog 90 [enc l] (enc (ak.of (eS 1 l))):=by
 refine aM.bL Tryz.func90 H4 Jl KE (t8 rfl) (fun hwf W0 bC E1 =>?_);simp only[yY,C9,bB];clear hwf;have R:=az
 repeat' ((first |refine U.aE (by decide +kernel) rfl fun K hK =>?_|(refine .aA [0,2,3,4,5,6,7,11] hK ?_;clear hK K)|(with_reducible refine .done (hK _ ?_);clear hK K)|refine U.of rfl ?_|(with_reducible refine au.aD (fun h =>?_) (fun h =>?_) <;>try simp only[h])) <;>try simp only[aF,R,simprocAttr])
 all_goals clear R
 refine U.loop (fun i:Nat=>ay [(0,enc l),(3,enc (ak.of (eS 1 (l.take i)))),(4,.int .i64 (eA 1 (l.take i))),(5,.int .i64 i)] []) (fun i=>i≤l.length) (fun i=>l.length-i) 0 (Nat.zero_le _) ?_ ?_
 ·refine bw.cN ?_ ?_ ?_ ?_ <;>simp[cj,ct,cq,bU,cg,I.only,bK]
  all_goals exact ⟨rfl,rfl⟩
 intro i hi;by_cases hlt:i<l.length
 ·have hlc:=eP hlt;have he:=fun A=>fJ (A:=A) 8 hlt rfl;have hw:=eG (i:=i) (by omega);have hsn:=wP (l.take i) l[i] 1;rw[←jy hlt] at hsn;have hok:=h l[i] (List.getElem_mem hlt);have hst:=tk (l.take i);have hln:=tl (l.take i) (s:=1) (by omega) fun q hq=>h q (List.mem_of_mem_take hq);have hli:(l.take i).length=i:=by rw[Z7];omega
  generalize l[i]=r at *;have hll:=r9 hst hok;generalize eA 1 (l.take i)=z at *;generalize eS 1 (l.take i)=u at *;have f:=xm z hst r hok;have ha:=dV u (cV z r) (by omega);have R:=y6 @hlc (y6 @he (y6 @hw (y6 @ha az)))
  repeat' ((first |refine U.aE (by decide +kernel) rfl fun K hK =>?_|refine .lead _ (f) ?_|(refine .aA [0,2,3,4,5,6,7,11] hK ?_;clear hK K)|(with_reducible refine .done (hK _ ?_);clear hK K)|refine U.of rfl ?_|(with_reducible refine au.aD (fun h =>?_) (fun h =>?_) <;>try simp only[h])) <;>try simp only[aF,R,simprocAttr])
  all_goals clear R
  refine ⟨i+1,by omega,by omega,?_⟩;rw[hsn.1,hsn.2];clear hsn;refine bw.cN ?_ ?_ ?_ ?_ <;>simp[cj,ct,cq,bU,cg,I.only,bK]
  all_goals rfl
 ·have hlc:=fu hlt;have hge:i=l.length:=by omega
  subst hge;rw[List.take_length];have R:=y6 @hlc az
  repeat' ((first |refine U.aE (by decide +kernel) rfl fun K hK =>?_|(refine .aA [0,2,3,4,5,6,7,11] hK ?_;clear hK K)|(with_reducible refine .done (hK _ ?_);clear hK K)|refine U.of rfl ?_|(with_reducible refine au.aD (fun h =>?_) (fun h =>?_) <;>try simp only[h])) <;>try simp only[aF,R,simprocAttr])
  all_goals clear R
  all_goals rfl
def dk(l:List aj):dW 6 Int:=⟨(List.range 6).map fun m=>(fg l (m:Nat):Int),by simp⟩
theorem rp(l:List aj){k:Nat}(h:k<6):(dk l).g k=fg l k:=by
 have:∀ j:Fin 6,(dk l).g j=fg l (j:Nat):=fun j=>by
  match j with
  |0=>rfl
  |1=>rfl
  |2=>rfl
  |3=>rfl
  |4=>rfl
  |5=>rfl
 exact this ⟨k,h⟩
theorem zI:I.agg [.int .i64 0,.int .i64 0,.int .i64 0,.int .i64 0,.int .i64 0,.int .i64 0]=enc (dk []):=rfl
theorem JC(l:List aj)(r:aj){k:Nat}(h:k<6)(hm:r.bf=(k:Int)):(⟨(dk l).l.set k ((dk l).g k+1),by simp[(dk l).h]⟩:dW 6 Int)=dk (l++[r]):=by
 rw[rp l h];simp only[dk,dW.mk.injEq];refine List.ext_getElem (by simp) fun i h1 h2 =>?_;simp only[List.getElem_set,List.getElem_map,List.getElem_range,pw,hm];by_cases e:k=i
 ·subst e;simp
 ·rw[if_neg e,if_neg (by omega)];simp
theorem YD(l:List aj)(r:aj){k:Nat}(h:k<6)(hm:r.bf=(k:Int)):(enc (dk l):I).du [k] (.int .i64 ((dk l).g k+1))=enc (dk (l++[r])):=by
 have h1:(enc (dk l):I).db=some ((dk l).l.map enc):=rfl;rw[ta,h1];simp only[nh,u4 (dk l) h,oM,fo];rw[←JC l r h hm]
 change I.agg _=I.agg (((dk l).l.set k ((dk l).g k+1)).map enc)
 rw[List.map_set];rfl
theorem El(l:List aj)(r:aj){k:Nat}(h:k<6)(hm:r.bf=(k:Int))(A:ab)(n:Nat)(u:Int)(rest:List av):ev A none n [k] (enc (dk l)) (.int .i64 ((dk l).g k+1)) rest (some (.int .i64 u))=aq rest (A.aP n (.box (enc (dk (l++[r]))))):=by
 rw[fq (s:=none) (v:=.int .i64 ((dk l).g k+1)) (old:=.int .i64 u) rfl rfl rfl,YD l r h hm]
theorem kz:(∀ A n b rest (q r:dW 6 Int),ev A (some 6) n [] b (enc q) rest (some (enc r))=aq rest (A.aP n (.box (enc q))))∧(∀ q:dW 6 Int,bV (some 6) (enc q)=true) :=
 ⟨fun A n b rest q r=>by rw[fq (fh _) (by rw[ir];rfl) ((eD _).trans (eD _).symm),fo],fun q=>by rw[ir];rfl⟩
theorem zp(l:List aj)(m:Int):fg l m≤l.length:=List.countP_le_length
def pL(l:List aj):Prop:=∀ r∈l,0≤r.bf∧r.bf≤5
theorem wX(l:List aj)(hl:l.length≤1000000000)(h:pL l):aM Tryz.prog 100 [enc l] (enc (dk l)):=by
 refine aM.bL Tryz.func100 GX Ij JD (t8 rfl) (fun hwf W0 bC E1 =>?_);simp only[xU,Ca,bB];clear hwf;have R:=y6 @zI az
 repeat' ((first |refine U.aE (by decide +kernel) rfl fun K hK =>?_|(refine .aA [0,2,3,5,6,7,8,9] hK ?_;clear hK K)|(with_reducible refine .done (hK _ ?_);clear hK K)|refine U.of rfl ?_|(with_reducible refine au.aD (fun h =>?_) (fun h =>?_) <;>try simp only[h])) <;>try simp only[aF,R,simprocAttr])
 all_goals clear R
 refine U.loop (fun i:Nat=>ay [(0,enc l),(2,.ptr 2 []),(3,.ptr 3 []),(6,enc l),(7,.int .i64 l.length),(8,.int .i64 i)] [(2,.box (enc (dk []))),(3,.box (enc (dk (l.take i))))]) (fun i=>i≤l.length) (fun i=>l.length-i) 0 (Nat.zero_le _) ?_ ?_
 ·refine bw.cN ?_ ?_ ?_ ?_ <;>simp[cj,ct,cq,bU,aH,cg,dT,I.only,ai.only,bK]
  all_goals rfl
 intro i hi;by_cases hlt:i<l.length
 ·have hlc:=eP hlt;have he:=fun A=>fJ (A:=A) 8 hlt rfl;have hw:=eG (i:=i) (by omega);have hsn:=jy hlt;have hin:=h l[i] (List.getElem_mem hlt);have hle:=zp (l.take i);have hli:(l.take i).length=i:=by rw[Z7];omega
  generalize l[i]=r at *;obtain ⟨k,hk⟩:=zz1 hin.1;have hk6:k<6:=by omega
  have hib:=fun {y:Option I} =>oc 1 (dk (l.take i)) (y:=y) (show (0:Int)≤(k:Int)∧(k:Int)<(6:Nat) by omega) rfl;have hat:=fun p=>fQ (p:=p) (dk (l.take i)) hk6;have hst:=El (l.take i) r hk6 hk;have hw1:IntKind.i64.wrap ((dk (l.take i)).g k+1)=(dk (l.take i)).g k+1:=by
   have:=hle k;rw[rp _ hk6];exact dC _ (by omega) (by omega)
  rw[←hsn] at hst;have R:=y6 @hlc (y6 @he (y6 @hw (y6 @hk (y6 @hib (y6 @hat (y6 @hst (y6 @hw1 (y6 @Int.toNat_natCast (y6 @ef (y6 @dJ az))))))))))
  repeat' ((first |refine U.aE (by decide +kernel) rfl fun K hK =>?_|(refine .aA [0,2,3,5,6,7,8,9] hK ?_;clear hK K)|(with_reducible refine .done (hK _ ?_);clear hK K)|refine U.of rfl ?_|(with_reducible refine au.aD (fun h =>?_) (fun h =>?_) <;>try simp only[h])) <;>try simp only[aF,R,simprocAttr])
  all_goals clear R
  refine ⟨i+1,by omega,by omega,?_⟩;clear hsn;refine bw.cN ?_ ?_ ?_ ?_ <;>simp[cj,ct,cq,bU,aH,cg,dT,I.only,ai.only,bK]
  all_goals rfl
 ·have hlc:=fu hlt;have hge:i=l.length:=by omega
  subst hge;rw[List.take_length];have R:=y6 @hlc (y6 @kz az)
  repeat' ((first |refine U.aE (by decide +kernel) rfl fun K hK =>?_|(refine .aA [0,2,3,5,6,7,8,9] hK ?_;clear hK K)|(with_reducible refine .done (hK _ ?_);clear hK K)|refine U.of rfl ?_|(with_reducible refine au.aD (fun h =>?_) (fun h =>?_) <;>try simp only[h])) <;>try simp only[aF,R,simprocAttr])
  all_goals clear R
  all_goals rfl
theorem EU(l:List aj)(hl:l.length≤1000000000)(h:pL l):aM Tryz.prog 102 [enc l] (enc (dk l)):=by
 refine aM.bL Tryz.func102 GY Ik JE (t8 rfl) (fun hwf W0 bC E1 =>?_);simp only[xV,Cb,bB];clear hwf;have R:=y6 @zI az
 repeat' ((first |refine U.aE (by decide +kernel) rfl fun K hK =>?_|(refine .aA [0,2,3,4,8] hK ?_;clear hK K)|(with_reducible refine .done (hK _ ?_);clear hK K)|refine U.of rfl ?_|(with_reducible refine au.aD (fun h =>?_) (fun h =>?_) <;>try simp only[h])) <;>try simp only[aF,R,simprocAttr])
 all_goals clear R
 refine U.loop (fun i:Nat=>ay [(0,enc l),(2,.ptr 2 []),(3,.ptr 3 []),(4,.int .i64 i)] [(2,.box (enc (dk []))),(3,.box (enc (dk (l.take i))))]) (fun i=>i≤l.length) (fun i=>l.length-i) 0 (Nat.zero_le _) ?_ ?_
 ·refine bw.cN ?_ ?_ ?_ ?_ <;>simp[cj,ct,cq,bU,aH,cg,dT,I.only,ai.only,bK]
  all_goals rfl
 intro i hi;by_cases hlt:i<l.length
 ·have hlc:=eP hlt;have he:=fun A=>fJ (A:=A) 8 hlt rfl;have hw:=eG (i:=i) (by omega);have hsn:=jy hlt;have hin:=h l[i] (List.getElem_mem hlt);have hle:=zp (l.take i);have hli:(l.take i).length=i:=by rw[Z7];omega
  generalize l[i]=r at *;obtain ⟨k,hk⟩:=zz1 hin.1;have hk6:k<6:=by omega
  have hib:=fun {y:Option I} =>oc 1 (dk (l.take i)) (y:=y) (show (0:Int)≤(k:Int)∧(k:Int)<(6:Nat) by omega) rfl;have hat:=fun p=>fQ (p:=p) (dk (l.take i)) hk6;have hst:=El (l.take i) r hk6 hk;have hw1:IntKind.i64.wrap ((dk (l.take i)).g k+1)=(dk (l.take i)).g k+1:=by
   have:=hle k;rw[rp _ hk6];exact dC _ (by omega) (by omega)
  rw[←hsn] at hst;have R:=y6 @hlc (y6 @he (y6 @hw (y6 @hk (y6 @hib (y6 @hat (y6 @hst (y6 @hw1 (y6 @Int.toNat_natCast az))))))))
  repeat' ((first |refine U.aE (by decide +kernel) rfl fun K hK =>?_|(refine .aA [0,2,3,4,8] hK ?_;clear hK K)|(with_reducible refine .done (hK _ ?_);clear hK K)|refine U.of rfl ?_|(with_reducible refine au.aD (fun h =>?_) (fun h =>?_) <;>try simp only[h])) <;>try simp only[aF,R,simprocAttr])
  all_goals clear R
  refine ⟨i+1,by omega,by omega,?_⟩;clear hsn;refine bw.cN ?_ ?_ ?_ ?_ <;>simp[cj,ct,cq,bU,aH,cg,dT,I.only,ai.only,bK]
  all_goals rfl
 ·have hlc:=fu hlt;have hge:i=l.length:=by omega
  subst hge;rw[List.take_length];have R:=y6 @hlc (y6 @kz az)
  repeat' ((first |refine U.aE (by decide +kernel) rfl fun K hK =>?_|(refine .aA [0,2,3,4,8] hK ?_;clear hK K)|(with_reducible refine .done (hK _ ?_);clear hK K)|refine U.of rfl ?_|(with_reducible refine au.aD (fun h =>?_) (fun h =>?_) <;>try simp only[h])) <;>try simp only[aF,R,simprocAttr])
  all_goals clear R
  all_goals rfl
theorem vg(l:List aj){m:Int}(h:0≤m∧m≤5):mD 6 1 none m (some ((dk l).l.map enc))=some (.int .i64 (fg l m)):=by
 obtain ⟨k,rfl⟩:=zz1 h.1;have hk:k<6:=by omega
 rw[VB (x:=dk l) 1 (k:=(k:Int)) ⟨h.1,by simpa using hk⟩ rfl];have e:enc ((dk l).l[((k:Int)).toNat]'((dk l).lt (by simpa using hk)))=I.int .i64 (fg l k):=by
  have:=rp l hk;rw[←dW.u3 _ hk] at this;rw[←this];rfl
 rw[e];rfl
theorem xi(l:List aj)(r:aj)(hl:l.length≤1000000000)(h:pL l)(hr:0≤r.bf∧r.bf≤5):aM Tryz.prog 71 [enc l,enc r] (enc (de l r)):=by
 refine aM.bL Tryz.func71 HM I4 Km (t8 rfl) (fun hwf W0 bC E1 =>?_);simp only[yL,CS,bB,Z5];clear hwf;have hF:=wX l hl h;have hix:=vg l hr;rw[show de l r=(decide ((l.length:Int)<60)&&((fg l r.bf:Int)==r.no)) by
  simp only[de];congr 1;rw[decide_eq_decide];omega]
 cases q1:decide ((l.length:Int)<60)
 ·have R:=y6 @q1 (y6 @hix (y6 @kz az))
  repeat' ((first |(with_reducible refine .guard (fun hb =>?_) (fun hb =>?_) <;>try simp only[hb])|refine U.aE (by decide +kernel) rfl fun K hK =>?_|refine .lead _ (hF) ?_|(refine .aA [0,1,3,4] hK ?_;clear hK K)|(with_reducible refine .done (hK _ ?_);clear hK K)|refine U.of rfl ?_|(with_reducible refine au.aD (fun h =>?_) (fun h =>?_) <;>try simp only[h])) <;>try simp only[aF,R,simprocAttr])
  all_goals clear R
  all_goals rfl
 ·have R:=y6 @q1 (y6 @hix (y6 @kz az))
  repeat' ((first |(with_reducible refine .guard (fun hb =>?_) (fun hb =>?_) <;>try simp only[hb])|refine U.aE (by decide +kernel) rfl fun K hK =>?_|refine .lead _ (hF) ?_|(refine .aA [0,1,3,4] hK ?_;clear hK K)|(with_reducible refine .done (hK _ ?_);clear hK K)|refine U.of rfl ?_|(with_reducible refine au.aD (fun h =>?_) (fun h =>?_) <;>try simp only[h])) <;>try simp only[aF,R,simprocAttr])
  all_goals clear R
  all_goals rfl
theorem Fw(l:List aj)(r:aj)(hl:l.length≤1000000000)(h:pL l)(hr:bg r=true→0≤r.bf∧r.bf≤5):aM Tryz.prog 72 [enc l,enc r] (enc (bg r&&de l r)):=by
 refine aM.bL Tryz.func72 HN I5 Kn (t8 rfl) (fun hwf W0 bC E1 =>?_);simp only[yM,CT,bB,Z5];clear hwf;have hF:=EU l hl h;have f34:=xg r;cases ho:bg r
 ·rw[show iN r=80 by simp[iN,ho]] at f34;have R:=y6 @kz az
  repeat' ((first |(with_reducible refine .guard (fun hb =>?_) (fun hb =>?_) <;>try simp only[hb])|refine U.aE (by decide +kernel) rfl fun K hK =>?_|refine .flat _ (f34) rfl ?_|refine .lead _ (hF) ?_|(refine .aA [0,1,3,4] hK ?_;clear hK K)|(with_reducible refine .done (hK _ ?_);clear hK K)|refine U.of rfl ?_|(with_reducible refine au.aD (fun h =>?_) (fun h =>?_) <;>try simp only[h])) <;>try simp only[aF,R,simprocAttr])
  all_goals clear R
  all_goals rfl
 rw[show iN r=0 by simp[iN,ho]] at f34;have hix:=vg l (hr ho);rw[show de l r=(decide ((l.length:Int)<60)&&(r.no==(fg l r.bf:Int))) by
  simp only[de];rw[Bool.eq_iff_iff];simp;omega]
 cases q1:decide ((l.length:Int)<60)
 ·have R:=y6 @q1 (y6 @hix (y6 @kz az))
  repeat' ((first |(with_reducible refine .guard (fun hb =>?_) (fun hb =>?_) <;>try simp only[hb])|refine U.aE (by decide +kernel) rfl fun K hK =>?_|refine .flat _ (f34) rfl ?_|refine .lead _ (hF) ?_|(refine .aA [0,1,3,4] hK ?_;clear hK K)|(with_reducible refine .done (hK _ ?_);clear hK K)|refine U.of rfl ?_|(with_reducible refine au.aD (fun h =>?_) (fun h =>?_) <;>try simp only[h])) <;>try simp only[aF,R,simprocAttr])
  all_goals clear R
  all_goals rfl
 ·have R:=y6 @q1 (y6 @hix (y6 @kz az))
  repeat' ((first |(with_reducible refine .guard (fun hb =>?_) (fun hb =>?_) <;>try simp only[hb])|refine U.aE (by decide +kernel) rfl fun K hK =>?_|refine .flat _ (f34) rfl ?_|refine .lead _ (hF) ?_|(refine .aA [0,1,3,4] hK ?_;clear hK K)|(with_reducible refine .done (hK _ ?_);clear hK K)|refine U.of rfl ?_|(with_reducible refine au.aD (fun h =>?_) (fun h =>?_) <;>try simp only[h])) <;>try simp only[aF,R,simprocAttr])
  all_goals clear R
  all_goals rfl
def gQ:List aj→List aj→Bool
 |_,[]=>true
 |out,r::l=>bg r&&de out r&&gQ (out++[r]) l
theorem wV:∀ (l out:List aj),gQ out l=true↔ja bg de out l
 | [],_=>by simp[gQ,ja]
 |r::l,out=>by simp only[gQ,ja,Z0,wV l,and_assoc]
theorem Zb{l:List aj}{i:Nat}(h:i<l.length):gQ (l.take i) (l.drop i)=(bg l[i]&&de (l.take i) l[i]&&gQ (l.take (i+1)) (l.drop (i+1))):=by
 rw[List.drop_eq_getElem_cons h,gQ,←jy h]
theorem lV{r:aj}(h:bg r=true):0≤r.bf∧r.bf≤5:=(p9 (qa h)).1
theorem BH{l:List aj}{i:Nat}(hi:i<l.length)(h:∀ r∈l.take i,bg r=true)(h2:bg l[i]=true):∀ r∈l.take (i+1),bg r=true:=fun r hr=>by
 rw[jy hi] at hr;rcases zx0.1 hr with h1 | h1
 ·exact h r h1
 ·rw[List.mem_singleton.1 h1];exact h2
theorem FF(l:List aj)(hl:l.length≤1000000000):aM Tryz.prog 98 [enc l] (enc (gQ [] l)):=by
 refine aM.bL Tryz.func98 H8 Jp KI (t8 rfl) (fun hwf W0 bC E1 =>?_);simp only[y8,Dd,bB];clear hwf;have R:=az
 repeat' ((first |(with_reducible refine .guard (fun hb =>?_) (fun hb =>?_) <;>try simp only[hb])|refine U.aE (by decide +kernel) rfl fun K hK =>?_|(refine .aA [0,2,3,4,5,6,7,8,22] hK ?_;clear hK K)|(with_reducible refine .done (hK _ ?_);clear hK K)|refine U.of rfl ?_|(with_reducible refine au.aD (fun h =>?_) (fun h =>?_) <;>try simp only[h])) <;>try simp only[aF,R,simprocAttr])
 all_goals clear R
 refine U.loop (fun i:Nat=>ay [(0,enc l),(5,enc l),(6,.int .i64 l.length),(7,.int .i64 i)] []) (fun i=>i≤l.length∧(∀ r∈l.take i,bg r=true)∧gQ [] l=gQ (l.take i) (l.drop i)) (fun i=>l.length-i) 0 ⟨Nat.zero_le _,by simp,by simp⟩ ?_ ?_
 ·refine bw.cN ?_ ?_ ?_ ?_ <;>simp[cj,ct,cq,bU,cg,I.only,bK]
  all_goals rfl
 rintro i ⟨hi,hk,heq⟩;by_cases hlt:i<l.length
 ·have hlc:=eP hlt;have he:=fun A=>fJ (A:=A) 8 hlt rfl;have hw:=eG (i:=i) (by omega);have hnx:=BH hlt hk;rw[Zb hlt] at heq;rw[heq];have hsl:=fun A=>Ea (l:=l) (k:=i) A (esz:=8) rfl (by omega);have hli:(l.take i).length=i:=by rw[Z7];omega
  generalize l[i]=r at *;have f80:=o7 r;cases q1:bg r
  ·rw[q1] at f80;have R:=y6 @hlc (y6 @he (y6 @hw (y6 @ef (y6 @dJ az))))
   repeat' ((first |(with_reducible refine .guard (fun hb =>?_) (fun hb =>?_) <;>try simp only[hb])|refine U.aE (by decide +kernel) rfl fun K hK =>?_|refine .flat _ (f80) rfl ?_|(refine .aA [0,2,3,4,5,6,7,8,22] hK ?_;clear hK K)|(with_reducible refine .done (hK _ ?_);clear hK K)|refine U.of rfl ?_|(with_reducible refine au.aD (fun h =>?_) (fun h =>?_) <;>try simp only[h])) <;>try simp only[aF,R,simprocAttr])
   all_goals clear R
   all_goals rfl
  rw[q1] at f80;have f71:=xi (l.take i) r (by omega) (fun q hq=>lV (hk q hq)) (lV q1);cases q2:de (l.take i) r
  ·rw[q2] at f71;have R:=y6 @hlc (y6 @he (y6 @hw (y6 @hsl (y6 @ef (y6 @dJ az)))))
   repeat' ((first |(with_reducible refine .guard (fun hb =>?_) (fun hb =>?_) <;>try simp only[hb])|refine U.aE (by decide +kernel) rfl fun K hK =>?_|refine .flat _ (f80) rfl ?_|refine .flat _ (f71) rfl ?_|(refine .aA [0,2,3,4,5,6,7,8,22] hK ?_;clear hK K)|(with_reducible refine .done (hK _ ?_);clear hK K)|refine U.of rfl ?_|(with_reducible refine au.aD (fun h =>?_) (fun h =>?_) <;>try simp only[h])) <;>try simp only[aF,R,zy8,simprocAttr])
   all_goals clear R
   all_goals rfl
  rw[q2] at f71;have R:=y6 @hlc (y6 @he (y6 @hw (y6 @hsl (y6 @ef (y6 @dJ az)))))
  repeat' ((first |(with_reducible refine .guard (fun hb =>?_) (fun hb =>?_) <;>try simp only[hb])|refine U.aE (by decide +kernel) rfl fun K hK =>?_|refine .flat _ (f80) rfl ?_|refine .flat _ (f71) rfl ?_|(refine .aA [0,2,3,4,5,6,7,8,22] hK ?_;clear hK K)|(with_reducible refine .done (hK _ ?_);clear hK K)|refine U.of rfl ?_|(with_reducible refine au.aD (fun h =>?_) (fun h =>?_) <;>try simp only[h])) <;>try simp only[aF,R,zy8,simprocAttr])
  all_goals clear R
  refine ⟨i+1,⟨by omega,hnx q1,?_⟩,by omega,?_⟩
  ·rfl
  refine bw.cN ?_ ?_ ?_ ?_ <;>simp[cj,ct,cq,bU,cg,I.only,bK]
  all_goals rfl
 ·have hlc:=fu hlt;rw[heq,List.drop_eq_nil_of_le (by omega),gQ];have R:=y6 @hlc az
  repeat' ((first |(with_reducible refine .guard (fun hb =>?_) (fun hb =>?_) <;>try simp only[hb])|refine U.aE (by decide +kernel) rfl fun K hK =>?_|(refine .aA [0,2,3,4,5,6,7,8,22] hK ?_;clear hK K)|(with_reducible refine .done (hK _ ?_);clear hK K)|refine U.of rfl ?_|(with_reducible refine au.aD (fun h =>?_) (fun h =>?_) <;>try simp only[h])) <;>try simp only[aF,R,simprocAttr])
  all_goals clear R
  all_goals rfl
end Go.Proofs.YtoffnnjbplgnaaaGreatDoor
namespace Go.Proofs.YtoffnnjbplgnaaaGreatDoor
open Go Go.Abs Go.Shelf Go.RowKit
open Go.Abs.Enc (enc)
def lJ(r:aj):List Value:=[.int .i64 r.bf,.int .i64 r.no,.int .i64 r.kind,.int .i64 r.ec,.int .i64 r.known,.int .i64 r.eX,.int .i64 r.fm,.string ⟨r.text.toArray⟩]
theorem XX{w:World}{D:aI}{E:aO}{r:aj}{cs:List Value}(h:ae w D E (enc r) cs):cs=lJ r:=by
 obtain ⟨h1,_⟩:=Dl (fj (v:=.agg cs.toArray) (by simp[aX,show (enc r:I).isAgg=true from rfl]) h);simp only[Value.agg.injEq] at h1;have:=congrArg Array.toList h1;simpa[lJ] using this
theorem AS{n:Int}(h:0≤n∧n<100000000):IntKind.i64.min≤n∧n≤IntKind.i64.max:=by
 have a:IntKind.i64.min=-9223372036854775808:=rfl;have b:IntKind.i64.max=9223372036854775807:=rfl;omega
theorem X6{w:World}{D:aI}{E:aO}{r:aj}(h:bg r=true):ae w D E (enc r) (lJ r):=by
 have hn:=qb h;have ht:=sE h
 show ae w D E (.agg [.agg [.int .i64 r.bf,.int .i64 r.no],.int .i64 r.kind,.int .i64 r.ec,.int .i64 r.known,.agg [.int .i64 r.eX,.int .i64 r.fm],.ah ⟨r.text.toArray⟩]) _
 have g:∀ n∈dD r,ae w D E (.int .i64 n) [.int .i64 n]:=fun n hn'=>⟨rfl,AS (hn n hn')⟩
 simp only[ae,aB];refine ⟨[.int .i64 r.bf,.int .i64 r.no],_,rfl,⟨[.int .i64 r.bf],_,rfl,by simpa only[ae] using g r.bf (by simp[dD]),[.int .i64 r.no],[],rfl,by simpa only[ae] using g r.no (by simp[dD]),rfl⟩,
  [.int .i64 r.kind],_,rfl,by simpa only[ae] using g r.kind (by simp[dD]),[.int .i64 r.ec],_,rfl,by simpa only[ae] using g r.ec (by simp[dD]),[.int .i64 r.known],_,rfl,by simpa only[ae] using g r.known (by simp[dD]),
  [.int .i64 r.eX,.int .i64 r.fm],_,rfl,⟨[.int .i64 r.eX],_,rfl,by simpa only[ae] using g r.eX (by simp[dD]),[.int .i64 r.fm],[],rfl,by simpa only[ae] using g r.fm (by simp[dD]),rfl⟩,
  [.string ⟨r.text.toArray⟩],[],rfl,⟨rfl,?_⟩,rfl⟩
 show r.text.toArray.size≤maxLen
 simp only[List.size_toArray,maxLen];omega
theorem Ie{z:Int}(hz:0≤z∧z<1000003){r:aj}(h:bg r=true)(W:World)(hl:eB Tryz.prog W (fun _=>False)):Calls Tryz.prog 81 #[.int .i64 z,.agg (lJ r).toArray] W fun e w'=>e=.returned (.tuple #[.string ⟨(cV z r).toArray⟩,.int .i64 (cO z (cA r))])∧Below W.heap.size W w':=by
 have hc:=o8 z hz r h;refine (hc.2 W (fun _ _=>False) [.int .i64 z,.agg (lJ r).toArray] hl (fun _ _ h=>h.elim) ?_).mono ?_
 ·simp only[al];refine ⟨_,_,[.int .i64 z],rfl,rfl,?_,_,_,lJ r,rfl,by simp[aX,show (enc r:I).isAgg=true from rfl],X6 h,rfl⟩
  show ae _ _ _ (.int .i64 z) _
  simp only[ae];exact ⟨trivial,AS (by omega)⟩
 ·rintro e w' ⟨v,D',rfl,hv,hb,_⟩;refine ⟨?_,hb⟩;have hv':∃ vs:List Value,v=.tuple vs.toArray∧al w' D' cm [enc (ak.of (cV z r)),enc (cO z (cA r))] vs:=hv;obtain ⟨vs,rfl,h2⟩:=hv';simp only[al] at h2;obtain ⟨v1,_,c1,rfl,p1,r1,v2,_,c2,rfl,p2,iC,rfl⟩:=h2;have r1':ae w' D' cm (.ah ⟨(cV z r).toArray⟩) c1:=r1;have r2':ae w' D' cm (.int .i64 (cO z (cA r))) c2:=iC;simp only[ae] at r1' r2';obtain ⟨rfl,_⟩:=r1';obtain ⟨rfl,_⟩:=r2';simp[aX,show (enc (ak.of (cV z r)):I).isAgg=false from rfl,show (enc (cO z (cA r)):I).isAgg=false from rfl] at p1 p2;subst p1 p2;rfl
def pb(w:World)(a:Option Addr)(l:List aj):Prop:=∀ (j:Nat) (h:j<l.length),∃ b off,a=some ⟨b,off,none⟩∧w.rangeAt b (off+j*8) (lJ l[j])∧b<w.heap.size
theorem pb.later{w w':World}{a:Option Addr}{l:List aj}(h:pb w a l)(hb:Below w.heap.size w w'):pb w' a l:=by
 intro j hj;obtain ⟨b,off,h1,h2,h3⟩:=h j hj;refine ⟨b,off,h1,fun k v hk =>?_,Nat.lt_of_lt_of_le h3 hb.size⟩;have:=h2 k v hk;simp only[World.cell?] at this ⊢;rw[hb.block b h3];exact this
theorem Yv{w:World}{D:aI}(hD:∀ b o,D b o→b<w.heap.size){l:List aj}{v:Value}(h:aQ w D cm (enc l) v):∃ a cap,v=.slice a l.length cap∧pb w a l:=by
 have h':aQ w D cm (.slice 8 (l.map enc)) v:=h;obtain ⟨a,cap,h1,h2,h3,h4,h5⟩:=kr h';refine ⟨a,cap,by rw[h1,Z2],fun j hj =>?_⟩;rcases h4 with h4 | ⟨b,off,cs,rfl,h6,h7⟩
 ·rw[List.map_eq_nil_iff] at h4;rw[h4] at hj;exact absurd hj (by simp)
 ·obtain ⟨c2,k1,k2⟩:=uA (k:=j) (x:=enc l[j]) h6 h7 h5 (by simp[hj]);have e:=XX k2;subst e;refine ⟨b,off,rfl,fun k v hk=>(k1 k v hk).1,hD b (off+j*8+0) (k1 0 _ rfl).2⟩
theorem YX(l:List aj)(hl:l.length≤1000000)(h:∀ r∈l,bg r=true)(a:Option Addr)(cap:Nat)(w:World)(hL:eB Tryz.prog w (fun _=>False))(hR:pb w a l) :
  Calls Tryz.prog 135 #[.slice a l.length cap] w fun e w'=>e=.returned (.string ⟨(eS 1 l).toArray⟩)∧Below w.heap.size w w':=by
 go_enter Tryz.func135,Tryz.ntmps135
 go_wp2
 go_loopw [4,10] (fun s i wr=>∃ j:Nat,j≤l.length∧i=.int .i64 j∧s=.int .i64 (eA 1 (l.take j))∧kG w.heap.size w.heap.size (eS 1 (l.take j)) wr∧Below w.heap.size w wr) (fun _ i _=>l.length-(RowKit.intOf i).toNat)
 case atStart =>
  refine ⟨0,by omega,rfl,rfl,.inl ⟨by omega,.slice none 0 0,heap_alloc_new w _,⟨rfl,.inl ⟨rfl,rfl⟩⟩,by simp[Value.ownBlock]⟩,jd w _⟩
 case round =>
  obtain ⟨j,hj,rfl,rfl,hI,hbw⟩:=hrel;have hB1:w.heap.size≤wr.heap.size:=hbw.size;by_cases hlt:j<l.length
  ·obtain ⟨b,off,ha,hr,hb⟩:=hR.later hbw j hlt;subst ha;have hok:=h l[j] (List.getElem_mem hlt);have hst:=tk (l.take j);have hsn:=wP (l.take j) l[j] 1;rw[←jy hlt] at hsn;generalize l[j]=r at *;have hcall:=Ie hst hok;have k0:wr.cell? ⟨b,off+j*8,none⟩=some (.int .i64 r.bf):=hr 0 _ rfl;have k1:wr.cell? ⟨b,off+j*8+1,none⟩=some (.int .i64 r.no):=hr 1 _ rfl;have k2:wr.cell? ⟨b,off+j*8+2,none⟩=some (.int .i64 r.kind):=hr 2 _ rfl;have k3:wr.cell? ⟨b,off+j*8+3,none⟩=some (.int .i64 r.ec):=hr 3 _ rfl;have k4:wr.cell? ⟨b,off+j*8+4,none⟩=some (.int .i64 r.known):=hr 4 _ rfl;have k5:wr.cell? ⟨b,off+j*8+5,none⟩=some (.int .i64 r.eX):=hr 5 _ rfl;have k6:wr.cell? ⟨b,off+j*8+6,none⟩=some (.int .i64 r.fm):=hr 6 _ rfl;have k7:wr.cell? ⟨b,off+j*8+7,none⟩=some (.string ⟨r.text.toArray⟩):=hr 7 _ rfl;simp only[lJ] at hcall;have hw:=eG (i:=j) (by omega);have hlt':decide ((j:Int)<(l.length:Int))=true:=eP hlt;have hll:=r9 hst hok;have htl:=tl (l.take j) (s:=1) (by omega) fun q hq=>h q (List.mem_of_mem_take hq);have hli:(l.take j).length=j:=by rw[Z7];omega
   have hsz:(⟨(cV (eA 1 (l.take j)) r).toArray⟩:ByteArray).size=(cV (eA 1 (l.take j)) r).length:=by show (cV _ r).toArray.size=_;simp
   go_wp2_with (first | (go_at_call 81;refine (hcall _ (A1 hL (hbw.trans ((jd wr _).mono hB1)))).mono ?_;rintro e W1 ⟨rfl,hb1⟩) | (go_at_call 156;refine (EH w.heap.size w.heap.size _ _ _ (rZ (rZ hI (jd wr _)) hb1) (by rw[hsz];omega) (by have:=hb1.size;simp at this;omega)).mono ?_;rintro e W2 ⟨rfl,hI2,hb2,hk2⟩))
   refine ⟨⟨j+1,by omega,rfl,?_,?_,?_⟩,by simp only[RowKit.intOf];omega⟩
   ·rw[hsn.2]
   ·rw[hsn.1];exact hI2
   ·exact ((hbw.trans ((jd wr _).mono hB1)).trans (hb1.mono (by simp;omega))).trans hb2
  ·have hge:j=l.length:=by omega
   subst hge;have hlt':decide ((l.length:Int)<(l.length:Int))=false:=by simp
   rw[List.take_length] at hI
   go_wp2_with (go_at_call 157;refine (xO w.heap.size w.heap.size _ _ hI hB1).mono ?_;rintro e W2 ⟨rfl,hI2,hb2,hk2⟩)
   go_ret
   exact ⟨rfl,hbw.trans hb2⟩
theorem w7(l:List aj)(hl:l.length≤1000000)(h:∀ r∈l,bg r=true):aM Tryz.prog 135 [enc l] (enc (ak.of (eS 1 l))):=by
 refine ⟨Hb,fun w D vs hL hD hv =>?_⟩;simp only[al] at hv;obtain ⟨v,rest,cs,rfl,h1,h2,rfl⟩:=hv;obtain ⟨a,cap,rfl,hR⟩:=Yv hD (fj h1 h2);refine (YX l hl h a cap w hL hR).mono ?_;rintro e w' ⟨rfl,hbl⟩;have hlen:=tl l (s:=1) (by omega) h;exact ⟨_,D,rfl,DH (l:=eS 1 l) (by unfold maxLen;omega),hbl,fun b o hd=>Nat.lt_of_lt_of_le (hD b o hd) hbl.size,fun _ _ h _=>h⟩
end Go.Proofs.YtoffnnjbplgnaaaGreatDoor
