/-
  A part of the proof that the law RollBooks returns true for every input; five variables of Go's library start as the text lays them (the card ties them); conditions: none beyond the statement's own. (part 4 of 7)
-/
import Derived.RecoverIn
import Derived.ProofKit
import Derived.SizedLaws
import Derived.Lib.SplitLaws
import Derived.Lib.AtoiAll
import Derived.Lib.ItoaMem
import Derived.Shelf.Strings.Split
import Derived.Shelf.Small.Wraps
import Derived.Shelf.Strconv.ErrVarAll
import Derived.Lib.FieldsP
import Derived.Laws.RangeAny
import Derived.Shelf.Strconv.Itoa3
import Derived.Lib.ItoaLen
import Derived.Shelf.Strings.Prefix
import Derived.Shelf.Strings.Cut
import Derived.Shelf.Small.Strs
import Derived.Shelf.Strconv.Clone
import Derived.Shelf.Strings.FieldsFuncAny
import Derived.WalkKit
import Derived.Tactics
import Derived.Tactics2
import Derived.Deep.MidRow
import Derived.Shelf.Strings.BuilderK
import Derived.BigCall
import Derived.Deep.RegionWith
import Derived.Test.YtoffnnjbplgnaaaGreatDoorNhc
set_option linter.unusedSimpArgs false
set_option linter.unusedVariables false
set_option maxHeartbeats 16000000
set_option maxRecDepth 100000
namespace Go.Abs
open Go Go.RowKit
section
variable {P:Program} {n:Nat} {w:World} {D:aJ} {E:aO} {rs:List bp} {post:cd} {fn:Func} {ch:List PanicEntry} {f:FuncId} {N b:Nat}
theorem oS{bj:Fence}{m:Nat}{tmps:Array Value}{R R':Ending→World→Prop}(hr:∀ e w,R e w→R' e w):∀ (ds:List Deferred) (u:FrameMode) (w:World),LeavesInM bj m P fn tmps R ds u w→LeavesInM bj m P fn tmps R' ds u w
 | [],u,w,h=>by
  cases u with
  |run=>exact h
  |returning=>obtain ⟨v,h1,h2⟩:=h;exact ⟨v,h1,hr _ _ h2⟩
  |panicking c=>exact hr _ _ h
 |d::ds,u,w,h=>by
  obtain ⟨h1,h2⟩:=h;refine ⟨h1,?_⟩;rcases h2 with ⟨r,w',k1,k2,k3⟩ | ⟨k1,fv,cap,g,args,k2,k3,k4,k5⟩
  ·exact .inl ⟨r,w',k1,k2,oS hr ds u w' k3⟩
  ·refine .inr ⟨k1,fv,cap,g,args,k2,k3,k4,k5.mono fun e u' w' h =>?_⟩;cases e with
   |returned v=>exact oS hr ds _ w' h
   |panicked c=>exact oS hr ds _ w' h
   |outgrown=>exact hr _ _ h
def qY(P:Program)(fn:Func)(rest:Code)(slots:List Nat)(a:Act)(vs:Array Value)(w:World)(R:Ending→World→Prop):Prop :=
 vs.toList=slots.map (fun t=>a.tmps.getD t undef)→rest.wpIn Fence.wide 9 P (bodyPostM Fence.wide 9 P fn R) a w
theorem qY.mono{rest:Code}{slots:List Nat}{a:Act}{vs:Array Value}{w:World}{R R':Ending→World→Prop}(h:qY P fn rest slots a vs w R)(hr:∀ e w,R e w→R' e w):qY P fn rest slots a vs w R':=fun hv=>by
 refine wpIn_mono (h hv) fun e a' w' q =>?_;cases e <;>simp only[bodyPostM] at q ⊢ <;>first
  |exact oS hr _ _ _ q
  |exact hr _ _ q
  |exact q
theorem F1{w:World}{D:aJ}{E:aO}(g:Nat→Value):∀ (slots:List Nat) (args:List I),aB w D E args (slots.map g)→∀ t,aQ w D E (cw (slots.zip args) t) (g t)
 | [],args,h,t=>by simp[cw,aQ]
 |s::slots,[],h,t=>by simp[cw,aQ]
 |s::slots,x::args,h,t=>by
  simp only[aB,zz7] at h;obtain ⟨v,rest,cs,e,h1,h2,h3⟩:=h;simp only[zy6] at e;obtain ⟨rfl,rfl⟩:=e;simp only[List.zip_cons_cons,cw];split
  ·rename_i hk;subst hk;exact fD h1 h2
  ·exact F1 g slots args h3 t
end
abbrev r5(P:Program)(w:World)(D:aJ)(n:Nat)(E:aO)(b:Option (List Deferred)):ct:=⟨P,w,D,n,bU E,E,e8,none,b⟩
theorem aM.Y4{P:Program}{n:Nat}{w:World}{D:aJ}{E:aO}{dV:Option (List Deferred)}{post:cd}{A:ab}{a:Act}{w':World}{D':aJ}{E':aO}{r:I}{v:Value}{os:List (Nat×ai)}
  (hs:aM (r5 P w D n E dV) A a w' D' E') (h1:∀ m z,aG os m=some z→A.o m=some z∧z.only (aw os)=true∧z.dO=true) (hf:r.flat=true) (hv:aQ w' D' E' r v) (hp:post r os):lh w D E post v w':=by
 obtain ⟨D2,E2,hw,e2,e2n,q1,q2,q3,q4,q5,q6⟩:=hs.sS h1;exact ⟨D2,E2,r,os,hp,aQ.flat hf hv,q1,q2,q3,q4,q5,q6⟩
def ke(b:Nat):Value:=.pointer (some ⟨b,0,none⟩)
def rI(P:Program)(f:FuncId)(k:Nat):Prop:=dH P f=true∧∀ (bs:List Nat) (w:World),bs.length=k →
 CallsDIn Fence.wide 8 P f (bs.map ke).toArray .returning w fun e u' w'=>(∃ v,e=.returned v)∧u'=.returning∧w'=w
def nP(A:ab):List Nat→List I→ab
 |N::Ns,z::zs=>nP (A.aN N (.box z)) Ns zs
 |_,_=>A
def lf(E:aO):List Nat→List Nat→List I→Prop
 | [],[],[]=>True
 |N::Ns,b::bs,z::zs=>E N=some (.aE b z.aL)∧lf E Ns bs zs
 |_,_,_=>False
def oc(A:ab):List Nat→List I→Prop
 | [],[]=>True
 |N::Ns,z::zs=>(∃ x,A.o N=some (.box x)∧x.aL=z.aL)∧oc A Ns zs
 |_,_=>False
def rD(P:Program)(f:FuncId)(ch:List PanicEntry)(zs:List I):Prop:=dH P f=true∧∀ (c:ct) (A:ab) (a:Act) (w:World) (D:aJ) (E:aO) (Ns bs:List Nat),c.P=P→aM c A a w D E→lf E Ns bs zs→oc A Ns zs →
 CallsDIn Fence.wide 8 P f (bs.map ke).toArray (.panicking ch) w fun e u' w'=>(∃ v,e=.returned v)∧settle u'=.returning∧aM c (nP A Ns zs) a w' D E
def jZ(f:FuncId)(vs:List Value):Deferred := { target:=.fn (.func f) vs.toArray,args := #[] }
def qQ(rs:List bp)(post:cd)(ch:List PanicEntry)(Ns:List Nat)(zs:List I):Exit→ab→Prop
 | .ret,A=>oc A Ns zs∧iZ rs post A
 | .panic ch',A=>ch'=ch∧oc A Ns zs∧iZ rs post (nP A Ns zs)
 |_,_=>False
theorem lf.len{E:aO} : ∀ {Ns bs:List Nat} {zs:List I},lf E Ns bs zs→bs.length=zs.length∧Ns.length=zs.length
 | [],[],[],_=>⟨rfl,rfl⟩
 |_::Ns,_::bs,_::zs,h=>by
  have:=lf.len h.2;simp[this.1,this.2]
 | [],_::_,_,h=>h.elim
 | [],[],_::_,h=>h.elim
 |_::_,[],_,h=>h.elim
 |_::_,_::_,[],h=>h.elim
section
variable {P:Program} {n:Nat} {w:World} {D:aJ} {E:aO} {rs:List bp} {post:cd} {fn:Func} {ch:List PanicEntry} {f:FuncId} {Ns bs:List Nat} {zs:List I}
theorem yM{A:ab}{a:Act}{w':World}{D':aJ}{E':aO}{dV:Option (List Deferred)}(hs:aM ⟨P,w,D,n,bU E,E,e8,none,dV⟩ A a w' D' E'):∀ {Ns bs:List Nat} {zs:List I},lf E Ns bs zs→oc A Ns zs→lf E' Ns bs zs
 | [],[],[],_,_=>trivial
 |N::Ns,b::bs,z::zs,h,hx=>by
  refine ⟨?_,yM hs h.2 hx.2⟩;obtain ⟨x,hx,_⟩:=hx.1;have hob:cY _ w' D' E' N (some (.box x)):=hx▸hs.bx N;rcases hs.qf (n:=N) (e:=.aE b z.aL) h.1 rfl with k | k
  ·exact absurd k (mI hob)
  ·exact k
 | [],_::_,_,h,_=>h.elim
 | [],[],_::_,h,_=>h.elim
 |_::_,[],_,h,_=>h.elim
 |_::_,_::_,[],h,_=>h.elim
theorem Ct(hrs:gj P fn.results.toList=some rs)(hEN:lf E Ns bs zs){A:ab}{D':aJ}{E':aO}{u:FrameMode}(hx:oc A Ns zs)
  (hcase:(u=.returning∧iZ rs post A∧rI P f zs.length)∨(u=.panicking ch∧iZ rs post (nP A Ns zs)∧rD P f ch zs)) :
  ∀ (ds:List Deferred) (a:Act) (w':World),a.defers=ds→aM ⟨P,w,D,n,bU E,E,e8,none,some [jZ f (bs.map ke)]⟩ A a w' D' E'→LeavesInM Fence.wide 9 P fn a.tmps (fun e w'=>∃ v,e=.returned v∧lh w D E post v w') ds u w'
 | [],a,w',hd,hs=>by
  have h1:a.defers=[jZ f (bs.map ke)]:=hs.ef;rw[hd] at h1;cases h1
 |d::ds,a,w',hd,hs=>by
  have h1:a.defers=[jZ f (bs.map ke)]:=hs.ef;rw[hd] at h1;simp only[zy6] at h1;obtain ⟨rfl,rfl⟩:=h1;refine ⟨by rcases hcase with ⟨rfl,_⟩ | ⟨rfl,_⟩ <;>simp,.inr ⟨fun _=>by decide,.func f,(bs.map ke).toArray,f,(bs.map ke).toArray,rfl,?_,fun _ _=>trivial,?_⟩⟩
  ·have hcb:dH P f=true:=by rcases hcase with ⟨_,_,h⟩ | ⟨_,_,h⟩ <;>exact h.1
   simp only[jZ,invoke,lR hcb,Array.empty_append]
  ·rcases hcase with ⟨rfl,hr,hi⟩ | ⟨rfl,hr,hc⟩
   ·refine (hi.2 bs w' hEN.len.1).mono ?_;rintro e u' w'' ⟨⟨v,rfl⟩,rfl,rfl⟩;obtain ⟨v,h1,h2⟩:=hs.sR hrs hr;exact ⟨v,h1,v,rfl,h2⟩
   ·refine (hc.2 _ A a w' D' E' Ns bs rfl hs (yM hs hEN hx) hx).mono ?_;rintro e u' w'' ⟨⟨v,rfl⟩,hu,hs2⟩;obtain ⟨v,h1,h2⟩:=hs2.sR hrs hr;simp only[hu];exact ⟨v,h1,v,rfl,h2⟩
theorem Dm{w:World}{D:aJ}{E:aO} : ∀ {Ns:List Nat} {zs:List I} {vs:List Value},dX (aQ w D E) (Ns.map fun N=>.ptr N []) vs→(∀ q∈Ns.zip zs,∃ b,E q.1=some (.aE b q.2.aL))→Ns.length=zs.length→∃ bs,vs=bs.map ke∧lf E Ns bs zs
 | [],[],_,.nil,_,_=>⟨[],rfl,trivial⟩
 |N::Ns,z::zs,_,.cons h hs,hb,hl=>by
  obtain ⟨bs,rfl,h2⟩:=Dm (zs:=zs) hs (fun q hq=>hb q (by simp[hq])) (by simpa using hl);obtain ⟨b,az⟩:=hb (N,z) (by simp);obtain ⟨b',aL,off,p1,p2,rfl⟩:=kS h;simp only at az;rw[az] at p1;simp only[v6,bD.aE.injEq] at p1;obtain ⟨rfl,rfl⟩:=p1;have hoff:off=0:=by
   cases hz:z.aL <;>rw[hz] at p2 <;>simpa[bY.off] using p2.symm
  subst hoff;exact ⟨b::bs,rfl,az,h2⟩
 | [],_::_,_,_,_,hl=>by simp at hl
 |_::_,[],_,_,_,hl=>by simp at hl
theorem rO{α:Type}{R:I→Value→Prop}{f:α→I}{g:α→Value}(h:∀ x,R (f x) (g x)):∀ l:List α,dX R (l.map f) (l.map g)
 | []=>.nil
 |x::l=>.cons (h x) (rO h l)
theorem abm{rest:Code}{x:bh}{slots:List Nat}{a:Act}{args:List I}{os:List (Nat×ai)}{tss:List Nat}(hrs:gj P fn.results.toList=some rs)(hx:dG P n rest=some x)(hsz:a.tmps.size=n)(hd:a.defers=[jZ f (tss.map fun t=>a.tmps.getD t undef)])(hos:∀ m,aw os m=true→n≤m∧1000000≤m)
  (hts:tss.map (cw (slots.zip args))=Ns.map fun N=>.ptr N []) (hl:Ns.length=zs.length) (hN:∀ q∈Ns.zip zs,∃ y,aG os q.1=some (.box y)∧y.aL=q.2.aL) (hi:rI P f zs.length) (hc:rD P f ch zs)
  (hAW:∀ (w:World) (D:aJ) (E:aO) (d:Deferred),U ⟨P,w,D,n,bU E,E,e8,none,some [d]⟩ x (qQ rs post ch Ns zs) (al (slots.zip args) os)):me (qY P fn rest slots a) (fun w _ E=>eK P w (bU E)) args os post:=by
 intro w D E vs hl0 hD ho hv hvs;have hvs':vs=slots.map (fun t=>a.tmps.getD t undef):=by simpa using hvs
 subst hvs';have htm:=F1 (fun t=>a.tmps.getD t undef) slots args hv;have hp:=rO htm tss;rw[hts] at hp;obtain ⟨bs,hbs,hat⟩:=Dm (zs:=zs) hp (fun q hq=>by
  obtain ⟨y,h1,h2⟩:=hN q hq;have hob:cY _ w D E q.1 (some (.box y)):=h1▸ho.bx q.1;obtain ⟨b',cs,T,e1,_⟩:=hob;exact ⟨b',by rw[e1,h2]⟩) hl
 rw[hbs] at hd;have hsim:aM ⟨P,w,D,n,bU E,E,e8,none,some [jZ f (bs.map ke)]⟩ (al (slots.zip args) os) a w D E:=by
  refine ⟨hsz,hd,htm,eb.refl _ _,fun _ _ h _=>h,hD,fun m =>?_,ho.cG,fun m e h=>.inr ⟨e,h,.refl e⟩,fun m hm =>?_,fun _ _ h=>h,pC hl0,.refl _ _⟩
  ·have h:=ho.bx m;simp only[al];cases hx:aG os m with
   |none=>rw[hx] at h;exact h
   |some x=>rw[hx] at h;exact cY.jk h fun e b he hb=>.inr ⟨m,e,he,hb⟩
  ·refine hos m ?_;cases hx:aG os m with
   |none=>have h:=ho.bx m;rw[hx] at h;exact absurd h hm
   |some x=>simp[aw,hx]
 refine wpIn_mono ((hAW w D E _) rest hx a w ⟨D,E,hsim⟩) ?_;rintro e a' w' ⟨A,hq,D',E',hs⟩;have bf:∀ e w',(∃ v,e=Ending.returned v∧lh w D E post v w')→∃ v D' E' r os',e=.returned v∧post r os'∧aQ w' D' E' r v∧iX (fun b=>w.heap.size≤b∨bU E b) w' D' E' (aG os') ∧
   eb (fun b=>w.heap.size≤b∨bU E b) w w'∧(∀ b o,D b o→D' b o)∧(∀ b o,D' b o→b<w'.heap.size)∧(∀ b o,D' b o→b<w.heap.size→¬ bU E b→D b o) ∧
   (∀ n e,E n=some e→aw os' n=true→∃ e',E' n=some e'∧e.fA e')∧fS w D w':=fun e w' ⟨v,h1,D',E',r,os',h2⟩=>⟨v,D',E',r,os',h1,h2⟩
 cases e <;>simp only[qQ] at hq
 ·obtain ⟨h1,h2⟩:=hq;exact oS bf _ _ _ (Ct (ch:=ch) hrs hat h1 (.inl ⟨rfl,h2,hi⟩) a'.defers a' w' rfl hs)
 ·obtain ⟨rfl,h1,h2⟩:=hq;exact oS bf _ _ _ (Ct hrs hat h1 (.inr ⟨rfl,h2,hc⟩) a'.defers a' w' rfl hs)
end
def py:List aF→Option (List Nat)
 | []=>some []
 | .t n::l=>(py l).map (n :: ·)
 |_=>none
theorem F2:∀ {l:List aF} {ts:List Nat},py l=some ts→l=ts.map .t
 | [],ts,h=>by simp only[py,v6] at h;subst h;rfl
 | .t n::l,ts,h=>by
  simp only[py,t8] at h;obtain ⟨r,h1,rfl⟩:=h;rw[F2 h1];rfl
 | .c _::_,_,h=>by simp[py] at h
def vd(P:Program)(n:Nat):Code→Option (bh×FuncId×List Nat×Nat×bh)
 | .seq iy (.seq (.region _ bl false) rest)=>match bl.toList with
  | [o1,o2]=>match lq P n bl o1,o2.op with
   |some ⟨some t5,.mk g caps,none⟩,.defer { callee:=.value (.tmp t),args,.. } =>if t=t5∧args = #[]∧o2.guard=none∧o2.dst=none then (match dG P n iy,dG P n rest,py caps with
     |some x0,some x,some tss=>some (x0,g,tss,t5,x)
     |_,_,_=>none)
    else none
   |_,_=>none
  |_=>none
 |_=>none
structure Hc (P:Program) (n:Nat) (x:bh) (rs:List bp) (post:cd) (ch:List PanicEntry) (g:FuncId) (tss:List Nat) (t5:Nat) (tsl:List (Nat×I)) (os0:List (Nat×ai)) (ρ:List (Nat×Nat)) (os1:List (Nat×ai)) (slots:List Nat) (cargs:List I) (Ns:List Nat) (zs:List I) (post1:cd):Prop where
 aV:tss.map (cw tsl)=Ns.map fun N=>.ptr (bo ρ N) []
 BV:eF ρ os1 os0
 arg:gi false (al ((t5,.func g (Ns.map fun N=>.ptr (bo ρ N) []))::tsl) (dw (iP ρ os1) os0)) ρ os1 (slots.map (cw ((t5,.func g (Ns.map fun N=>.ptr (bo ρ N) []))::tsl))) cargs
 yE:∀ r os',post1 r os'→dj false ρ os1 os0 r os'
 FE:tss.map (cw (slots.zip cargs))=Ns.map fun N=>.ptr N []
 len:Ns.length=zs.length
 box:∀ q∈Ns.zip zs,∃ y,aG os1 q.1=some (.box y)∧y.aL=q.2.aL
 j5:∀ m,aw os1 m=true→n≤m∧1000000≤m
 rest:∀ (w:World) (D:aJ) (E:aO) (d:Deferred),U ⟨P,w,D,n,bU E,E,e8,none,some [d]⟩ x (qQ rs post1 ch Ns zs) (al (slots.zip cargs) os1)
 ln:∀ r os',post1 r os'→∃ osF,r.flat=true∧r.aR (bo ρ)=r∧(∀ m z,aG osF m=some z→aG (cD ρ os'++os0) m=some z∧z.only (aw osF)=true∧z.dO=true)∧post r osF
theorem Dn{w:World}{D:aJ}{E:aO}{ρ:List (Nat×Nat)} : ∀ {Ns:List Nat} {vs vs':List Value},dX (aQ w D E) (Ns.map fun N=>.ptr (bo ρ N) []) vs→dX (aQ w D E) (Ns.map fun N=>.ptr (bo ρ N) []) vs'→vs=vs'
 | [],_,_,.nil,.nil=>rfl
 |N::Ns,_,_,.cons h hs,.cons h' hs'=>by
  obtain ⟨b1,sh1,off1,p1,p2,rfl⟩:=kS h;obtain ⟨b2,sh2,off2,q1,q2,rfl⟩:=kS h';rw[p1] at q1;simp only[v6,bD.aE.injEq] at q1;obtain ⟨rfl,rfl⟩:=q1;rw[p2] at q2;simp only[v6] at q2;subst q2;rw[Dn hs hs']
theorem eU.aaj{P:Program}{f:FuncId}{fn:Func}{x0 x:bh}{g:FuncId}{tss:List Nat}{t5:Nat}{rs:List bp}{args:List I}{os:List (Nat×ai)}{post:cd}{ch:List PanicEntry}{zs:List I}(hf:P.funcs[f]?=some fn)(hcall:dH P f=true)(hc:(fn.body.bind (vd P fn.ntmps))=some (x0,g,tss,t5,x))
  (hrs:gj P fn.results.toList=some rs) (hn:args.length≤fn.ntmps) (hn2:fn.ntmps≤1000000) (hos:∀ m,aw os m=true→1000000≤m) (hi:rI P g zs.length) (hca:rD P g ch zs) (hts:tss.contains t5=false)
  (h:I.gJ args→∀ (w:World) (D:aJ) (E:aO),U ⟨P,w,D,fn.ntmps,bU E,E,e8,none,some []⟩ x0 (cg (fun B=>∃ tsl os0 ρ os1 slots cargs Ns post1,B=al tsl os0∧Hc P fn.ntmps x rs post ch g tss t5 tsl os0 ρ os1 slots cargs Ns zs post1) (fun _ _=>False)) (al (bA 0 args) os)):eU P f args os post:=by
 obtain ⟨body,hb,hc⟩:=zw4.1 hc;refine ⟨hcall,fun w D E vs hl hD ho hv =>?_⟩;have hlen:=pj hv;have s0:=xz (P:=P) (n:=fn.ntmps) (Y:=e8) hD ho hv (by omega) (fun m hm=>⟨Nat.le_trans hn2 (hos m hm),hos m hm⟩) (pC hl);have hsim:aM (r5 P w D fn.ntmps E (some [])) (nW args os) { tmps:=vs.toArray++Array.replicate (fn.ntmps-vs.toArray.size) undef,defers:=[] } w D E :=
  ⟨s0.sz,rfl,s0.dn,s0.c8,s0.cO,s0.cQ,s0.bx,s0.cG,s0.df,s0.eO,s0.cE,pC hl,s0.fm⟩
 obtain ⟨RR,hRR⟩:∃ RR:Ending→World→Prop,RR=fun e w'=>∃ v,e=.returned v∧lh w D E post v w':=⟨_,rfl⟩
 refine Calls.mono (R:=RR) ?_ (fun e w' q=>by rw[hRR] at q;obtain ⟨v,he,D',E',r,os',k⟩:=q;exact ⟨v,D',E',r,os',he,k⟩);refine (callsIn_wide (n:=9)).1 (callsIn_of_wp_marks hf hb trivial ?_);unfold vd at hc;split at hc
 case h_2=>cases hc
 rename_i iy id bl rest;split at hc
 case h_2=>cases hc
 rename_i o1 o2 hops;split at hc
 case h_2=>cases hc
 rename_i t5' g' caps t dargs _ hg1 ho2;split at hc
 case isFalse=>cases hc
 rename_i hok;obtain ⟨ht,hda,hgd,hdst⟩:=hok;split at hc
 case h_2=>cases hc
 rename_i y0 y tss' hx0 hx htt;simp only[v6,Prod.mk.injEq] at hc;obtain ⟨e1,e2,e3,e4,e5⟩:=hc;subst e4 ht hda e1 e2 e3 e5;have hcaps:=F2 htt;subst hcaps;refine wpIn_seq ?_;have hw0:=((h (pk _ _ hv) w D E).sub (ud args os)) iy hx0 _ w ⟨D,E,hsim⟩;refine wpIn_mono hw0 ?_;rintro e a1 w1 ⟨B,hq,D1,E1,hs1⟩;cases e <;>simp only[cg] at hq
 obtain ⟨tsl,os0,ρ,os1,slots,cargs,Ns,post1,rfl,R⟩:=hq;simp only[Exit.then];refine wpIn_seq (wpIn_region_list ?_);rw[hops];obtain ⟨q1,q2,q3,q4⟩:=ou hg1;simp only at q1 q2;have wn1:∀ a:Act,Region.wanted o1 (yielded bl a.tmps)=true:=fun a=>by
  rcases q4 with ⟨a5,_⟩ | ⟨_,_,_,_,_,a5⟩
  ·simp[Region.wanted,a5]
  ·simp at a5
 have wn2:∀ a:Act,Region.wanted o2 (yielded bl a.tmps)=true:=fun a=>by simp[Region.wanted,hgd]
 simp only[wpListIn,wn1,if_true];have hmk:aZ (al tsl os0) (.mk g' (tss'.map .t))=some (.func g' (Ns.map fun N=>.ptr (bo ρ N) [])):=by
  have e:(tss'.map aF.t).map (af (al tsl os0))=Ns.map fun N=>.ptr (bo ρ N) []:=by
   rw[←R.aV,List.map_map];rfl
  simp only[aZ,e];rw[if_pos];simp[I.cn]
 have d1:=(Dq (c:=r5 P w D fn.ntmps E (some [])) q1 hmk).does q3;rw[←q2] at d1;refine d1.wp q1 ⟨D1,E1,hs1⟩ fun a2 w2 hs2 =>?_;obtain ⟨D2,E2,hs2⟩:=hs2;simp only[wn2,if_true];rw[CH] at hs2
 -- the deferred call
 have hglt:=u3 hi.1;have hfv:=hs2.dn t;simp only[al,cw,if_true] at hfv;obtain ⟨fc,f1,f2⟩:=hfv;simp only[ae] at f2;obtain ⟨fvs,f3,f4⟩:=f2;have hval:a2.tmps.getD t undef=.func (.func g') #[] fvs.toArray:=by
  rw[←lB hglt];simpa[bd,I.isAgg,f3] using f1.symm
 have htl:tss'.map (cw ((t,.func g' (Ns.map fun N=>.ptr (bo ρ N) []))::tsl))=Ns.map fun N=>.ptr (bo ρ N) []:=by
  rw[←R.aV];refine List.map_congr_left fun k hk =>?_;simp only[cw];rw[if_neg];intro e;have:tss'.contains k=true:=by simpa using hk
  rw[e,hts] at this;cases this
 have hfvs:fvs=tss'.map fun k=>a2.tmps.getD k undef:=by
  refine Dn (w:=w2) (D:=D2) (E:=E2) (ρ:=ρ) (nO f4) ?_;have:=rO (f:=cw ((t,.func g' (Ns.map fun N=>.ptr (bo ρ N) []))::tsl)) (g:=fun k=>a2.tmps.getD k undef) (fun k=>hs2.dn k) tss'
  rwa [htl] at this
 have hdf:a2.defers=[]:=hs2.ef;obtain ⟨a3,ha3⟩:∃ a3:Act,a3 = { a2 with defers:=[jZ g' (tss'.map fun k=>a2.tmps.getD k undef)] } :=⟨_,rfl⟩
 have hrun:(o2.semAt Fence.wide.round a2.eval).run P w2=.ok (.defer (jZ g' (tss'.map fun k=>a2.tmps.getD k undef))) w2:=by
  show (execOp a2.eval o2).run P w2=_
  have he:a2.eval (.tmp t)=.func (.func g') #[] fvs.toArray:=hval;simp[execOp,ho2,resolve,he,Deferred.ofValue,jZ,hfvs]
 refine ⟨fun _ _=>trivial,?_⟩;rw[hrun,Oper.uponIn_defer,hdf,hdst];simp only[Exit.then];have hput:({ tmps:=a2.tmps,defers:=[jZ g' (tss'.map fun k=>a2.tmps.getD k undef)] } : Act).put none undef=a3:=by rw[ha3];rfl
 rw[hput]
 -- the rest
 have hand:=abm (P:=P) (n:=fn.ntmps) (fn:=fn) (f:=g') (Ns:=Ns) (zs:=zs) (ch:=ch) (slots:=slots) (a:=a3) (args:=cargs) (os:=os1) (tss:=tss') hrs hx (by rw[ha3];exact hs2.sz) (by rw[ha3]) R.j5 R.FE R.len R.box hi hca R.rest;have hs3:aM (r5 P w D fn.ntmps E (some [jZ g' (tss'.map fun k=>a2.tmps.getD k undef)])) (al ((t,.func g' (Ns.map fun N=>.ptr (bo ρ N) []))::tsl) os0) a3 w2 D2 E2:=by
  rw[ha3];exact ⟨hs2.sz,rfl,hs2.dn,hs2.c8,hs2.cO,hs2.cQ,hs2.bx,hs2.cG,hs2.df,hs2.eO,hs2.cE,pC hl,hs2.fm⟩
 have hall:∀ l:List Nat,dX (aQ w2 D2 E2) (l.map (cw ((t,.func g' (Ns.map fun N=>.ptr (bo ρ N) []))::tsl))) (l.map fun k=>a3.tmps.getD k undef):=fun l=>rO (fun k=>hs3.dn k) l;have hus:=hand.use hs3 false (fun h hr=>h.mono hr) ⟨(fun h=>by cases h),fun _=>hs3.nr⟩ R.BV R.arg R.yE (hall slots);refine qY.mono hus ?_ (by simp);rintro e w' ⟨v,r,os',D4,E4,rfl,hp,hs4,hv4,_⟩;rw[hRR];obtain ⟨osF,g1,g2,g3,g4⟩:=R.ln r os' hp;rw[g2] at hv4;exact ⟨v,rfl,hs4.Y4 g3 g1 hv4 g4⟩
end Go.Abs
namespace Go.Abs
open Go Go.RowKit
open Enc (enc)
def kq(w:World):aJ:=fun b _=>b<w.heap.size
structure rL (P:Program) (t:TypeId) (α:Type) [Enc α]:Prop where
 cells:P.cellsOf t=Enc.sz α
 tD:0<Enc.sz α
 o8:∀ {H:Type} {enc0:TypeId×Value→H} {w:World} {fuel:Nat} {cs:List Value} {x:DataW H×List MemPlace},DataW.trod enc0 P w 0 (fun _=>true) true fuel t cs=some x→∃ a:α,ae w (kq w) cA (enc a) cs
theorem aaB{P:Program}{t:TypeId}(ht:P.underlying t=some (.int .i64))(hc:P.cellsOf t=1):rL P t Int :=
 ⟨hc,by decide,fun h=>by
  obtain ⟨n,rfl,_,hw⟩:=DataW.trod_int ht h;refine ⟨n,?_⟩;rw[oD,ae];simp only[Lit.wf,zz0,decide_eq_true_eq] at hw;exact ⟨rfl,hw.1,hw.2⟩⟩
theorem Hm(a:Addr)(i j:Nat):(a.add i).add j=a.add (i+j):=by
 unfold Addr.add;by_cases hi:i=0 <;>by_cases hj:j=0 <;>simp[hi,hj,Nat.add_assoc]
end Go.Abs
namespace Go.Abs
open Go Go.RowKit Go.ChangeShapes
open Enc (enc)
def sK(P:Program)(t:TypeId)(l:List (TypeId×Nat)):Bool:=match P.underlying t with
 |some (.struct fs)=>fs.toList.map (fun f=>(f.type,f.offset))==l
 |_=>false
def B9(P:Program)(t:TypeId)(n:Nat)(e:TypeId):Bool:=match P.underlying t with
 |some (.array n' e')=>n'==n&&e'==e
 |_=>false
theorem YB{P:Program}{t:TypeId}{n:Nat}{e:TypeId}(h:B9 P t n e=true):P.underlying t=some (.array n e):=by
 unfold B9 at h;split at h
 ·rename_i n' e' ht;simp only[zz0,beq_iff_eq] at h;rw[ht,h.1,h.2]
 ·cases h
theorem YE{P:Program}{t:TypeId}{l:List (TypeId×Nat)}(h:sK P t l=true):∃ fs,P.underlying t=some (.struct fs)∧fs.toList.map (fun f=>(f.type,f.offset))=l:=by
 unfold sK at h;split at h
 ·rename_i fs ht;exact ⟨fs,ht,by simpa using h⟩
 ·cases h
theorem aaJ{H:Type}{enc0:TypeId×Value→H}{P:Program}{f:Func}{s:ChangeSpec}{apart jf handsOn again:Bool}{W W':World}{args:Array Value}{v:Value}{ds gs:List (DataW H)}{before pa pv:List MemPlace}
  (hW:DataW.Whole enc0 P f.params.toList s.vars apart W args.toList ds gs before)
  (hres:∀ (b:Nat) (sp:Nat→Bool) (hd:Bool),DataW.TrodAll enc0 P W' b sp hd f.resultTypes.toList (v.resultList f.resultTypes.size) (s.fn H (ds++gs)).results [])
  (hargs:∀ sp:Nat→Bool,(∀ p∈before,sp p.block=true)→DataW.TrodAll enc0 P W' 0 sp true f.params.toList args.toList (s.fn H (ds++gs)).args pa)
  (hvars:∀ sp:Nat→Bool,(∀ p∈before,sp p.block=true)→DataW.TrodVars enc0 P W' sp s.vars (s.fn H (ds++gs)).vars pv)
  (hps:before=pa++pv) (hb:Below W.heap.size W W')
  (hok:∀ (j:Nat) (t:TypeId) (r:Value),f.resultTypes[j]?=some t→(v.resultList f.resultTypes.size)[j]?=some r→Value.okWide P W' .any 0 t r) :
  s.post enc0 P f apart jf handsOn again W args v W':=by
 have hlt:∀ p∈before,p.block<W.heap.size:=fun p hp=>by simpa using hW.lt p hp
 have hold:∀ p∈before,(fun b=>decide (b<W.heap.size)) p.block=true:=fun p hp=>by simpa using hlt p hp
 refine ⟨ds,gs,before,[],pa,pv,hW,hres _ _ _,hargs _ hold,hvars _ hold,World.keptBut_mono (fun p hp=>⟨hp,?_⟩) (hb.frame (· ∈ before)),fun _ =>?_⟩
 ·rw[hps,zw1] at hp;exact Or.inr hp
 ·obtain ⟨_,_,_,_,_,hz,hn⟩:=hW;refine ⟨hok,_,_,([]++pa)++pv,⟨[]++pa,pv,trodAll_append (hargs _ (fun _ _=>rfl)) (hres _ _ _),hvars _ (fun _ _=>rfl),rfl,?_,?_⟩,?_⟩
  ·intro b off hp;have hp':MemPlace.cell b off∈before:=by rw[hps];simpa using hp
   rw[hb.frozen (p:=⟨b,off,none⟩) (hlt _ hp')];exact hz b off hp'
  ·intro ha;have:=hn ha;rw[hps] at this;simpa using this
  ·intro p hp _;rw[hps];simpa using hp
def Hb(P:Program)(u:TypeId)(n:Nat)(S:I→Prop):Prop:=P.cellsOf u=n ∧
 ∀ {H:Type} {enc0:TypeId×Value→H} {w:World} {fuel:Nat} {cs:List Value} {x:DataW H×List MemPlace},DataW.trod enc0 P w 0 (fun _=>true) true fuel u cs=some x→∃ v,S v∧ae w (kq w) cA v cs
def aan(P:Program):Nat→List (TypeId×Nat)→List (Nat×(I→Prop))→Prop
 |_,[],[]=>True
 |o,(u,off)::l,(n,S)::Ss=>off=o∧Hb P u n S∧aan P (o+n) l Ss
 |_,_,_=>False
def oi:List (Nat×(I→Prop))→List I→Prop
 | [],[]=>True
 |(_,S)::Ss,v::vs=>S v∧oi Ss vs
 |_,_=>False
theorem jz{n:Nat}{S:I→Prop}{Ss:List (Nat×(I→Prop))} : ∀ {vs:List I},oi ((n,S)::Ss) vs→∃ v vs',vs=v::vs'∧S v∧oi Ss vs'
 | [],h=>h.elim
 |v::vs,h=>⟨v,vs,rfl,h.1,h.2⟩
theorem rQ:∀ {vs:List I},oi [] vs→vs=[]
 | [],_=>rfl
 |_::_,h=>h.elim
def rq:List (Nat×(I→Prop))→Nat
 | []=>0
 |(n,_)::Ss=>n+rq Ss
structure iI (P:Program) (t:TypeId) (α:Type) [Enc α] (B:α→Prop):Prop where
 cells:P.cellsOf t=Enc.sz α
 tD:0<Enc.sz α
 o8:∀ {H:Type} {enc0:TypeId×Value→H} {w:World} {fuel:Nat} {cs:List Value} {x:DataW H×List MemPlace},DataW.trod enc0 P w 0 (fun _=>true) true fuel t cs=some x→(∀ k∈x.1.weights P t,k≤reachBytes)→∃ a:α,B a∧ae w (kq w) cA (enc a) cs
theorem rL.aay{P:Program}{t:TypeId}{α:Type}[Enc α](h:rL P t α):iI P t α fun _=>True:=⟨h.cells,h.tD,fun hx _=>by
 obtain ⟨a,ha⟩:=h.o8 hx;exact ⟨a,trivial,ha⟩⟩
theorem F6{H:Type}{P:Program}{e:TypeId} : ∀ {l:List (DataW H)} {d:DataW H},d∈l→∀ n∈d.weights P e,n∈DataW.weightsAll P e l
 |d'::r,d,hd,n,hn=>by
  simp only[DataW.weightsAll,zw1];rcases zw5.1 hd with rfl | h
  ·exact .inl hn
  ·exact .inr (F6 h n hn)
theorem aaz{P:Program}{t e:TypeId}{α:Type}[Enc α]{B:α→Prop}(ht:P.underlying t=some (.slice e))(he:iI P e α B)(hc:P.cellsOf t=1):iI P t (List α) fun l=>(∀ a∈l,B a)∧l.length*P.bytesOf e≤reachBytes :=
 ⟨hc,by rw[NR];exact Nat.one_pos,fun {H enc0 w fuel cs x} h hwt=>by
  rcases DataW.trod_slice ht h with ⟨rfl,_⟩ | ⟨a,len,cap,elems,rest,n,_,rfl,hxx,hb,hl,hm,hlen,hel,_⟩
  ·refine ⟨[],⟨by simp,by simp⟩,?_⟩;simp only[gO,zy9];rw[ae];exact ⟨none,0,rfl,zz8 _,by decide,.inl rfl,by simp⟩
  ·have hw1:∀ y∈elems,∀ k∈y.1.weights P e,k≤reachBytes:=fun y hy k hk=>by
    refine hwt k ?_;rw[hxx];simp only[DataW.weights,ht,zw5,zw1];exact .inr (.inl (F6 (zx1.2 ⟨y,hy,rfl⟩) k hk))
   have hw2:len*P.bytesOf e≤reachBytes:=by
    have:=hwt ((elems.length+rest.length)*P.bytesOf e) (by rw[hxx];simp[DataW.weights,ht]);have h3:elems.length*P.bytesOf e≤(elems.length+rest.length)*P.bytesOf e:=Nat.mul_le_mul_right _ (by omega);rw[←hlen];omega
   have key:∀ k,k≤len→∃ (l:List α) (cs':List Value),l.length=k∧aI w (kq w) cA (l.map enc) cs'∧cs'.length=k*Enc.sz α∧(∀ j v,cs'[j]?=some v→w.cell? (a.add j)=some v)∧∀ b∈l,B b:=by
    intro k
    induction k with
    |zero=>exact fun _=>⟨[],[],rfl,by simp[aI],by simp,by simp,by simp⟩
    |succ k ih =>
     intro hk;obtain ⟨l,cs',h1,h2,h3,h4,hB⟩:=ih (by omega);have h5:=hel k (by omega);have h6:k<elems.length:=by omega
     rw[zz5 h6] at h5;obtain ⟨ce,h7,h8⟩:=zw4.1 h5;obtain ⟨y,hyB,hy⟩:=he.o8 h8 (hw1 _ (zw3 h6));rw[he.cells] at h7;obtain ⟨_,h9,h10⟩:=World.cells?_some h7;refine ⟨l++[y],cs'++ce,by simp[h1],?_,by rw[zz1,h3,h9,Nat.succ_mul],fun j v hj =>?_,fun b hb=>(zw1.1 hb).elim (hB b) fun h=>by rw[List.mem_singleton.1 h];exact hyB⟩
     ·rw[zx4];refine jq _ _ _ _ h2 ?_;simp only[zz7,zy9,aI];exact ⟨ce,[],by simp,hy,rfl⟩
     ·rcases Nat.lt_or_ge j cs'.length with hlt | hge
      ·rw[zx8 hlt] at hj;exact h4 j v hj
      ·rw[List.getElem?_append_right hge] at hj;have hlt:j-cs'.length<Enc.sz α:=by
        have:=(zz9.1 hj).1;omega
       have:=h10 (j-cs'.length) hlt;rw[Hm,←h3,Nat.add_sub_cancel' hge] at this;rw[this];exact hj
   obtain ⟨l,cs',h1,h2,h3,h4,hB⟩:=key len (zz8 _);refine ⟨l,⟨hB,by rw[h1];exact hw2⟩,?_⟩;simp only[gO,ae,zz2];refine ⟨some a,cap,by rw[h1],by omega,hm,?_,Hr l⟩;by_cases hz:len=0
   ·left;have:l=[]:=List.length_eq_zero_iff.1 (by omega);rw[this];rfl
   right
   have hpos:0<cs'.length:=by rw[h3];exact Nat.mul_pos (Nat.pos_of_ne_zero hz) he.tD
   have h0:=h4 0 cs'[0] (zz5 hpos);have hsp:a.spot=none:=by
    simp only[Addr.add,if_true] at h0;unfold World.cell? at h0;split at h0
    ·split at h0
     ·cases h0
     ·rename_i hs;cases hh:a.spot <;>simp_all
    ·cases h0
   have ha:∀ j,a.add j=⟨a.block,a.off+j,none⟩:=fun j=>by
    unfold Addr.add;split
    ·rename_i hj;subst hj;cases a;simp_all
    ·rfl
   refine ⟨a.block,a.off,cs',by cases a;simp_all,fun j v hj =>?_,h2⟩;have h5:=h4 j v hj;rw[ha] at h5;refine ⟨h5,?_⟩
   show (⟨a.block,a.off+j,none⟩:Addr).block<_
   exact World.block_lt_of_cell? w _ h5⟩
theorem ab8{H:Type}{enc0:TypeId×Value→H}{P:Program}{w:World}{fuel:Nat}{t:TypeId}{l:List (TypeId×Nat)}{cs:List Value}{x:DataW H×List MemPlace}(ht:sK P t l=true)(h:DataW.trod enc0 P w 0 (fun _=>true) true fuel t cs=some x)(hwt:∀ k∈x.1.weights P t,k≤reachBytes) :
  cs.length=P.cellsOf t∧∃ m:Nat,∀ (i:Nat) (u:TypeId) (o:Nat),l[i]?=some (u,o)→∃ y,DataW.trod enc0 P w 0 (fun _=>true) true m u ((cs.drop o).take (P.cellsOf u))=some y∧∀ k∈y.1.weights P u,k≤reachBytes:=by
 obtain ⟨fs,h1,h2⟩:=YE ht;obtain ⟨xs,m,_,hx,h3,h4,h5⟩:=DataW.trod_struct h1 h;refine ⟨h3,m,fun i u o hi =>?_⟩;rw[←h2] at hi;simp only[zx2,t8,Prod.mk.injEq] at hi;obtain ⟨f,hf,rfl,rfl⟩:=hi;have hf':fs[i]?=some f:=by simpa using hf
 have h6:=h5 i f hf';have hlt:i<fs.size:=(zy5.1 hf').1;rw[zz5 (by omega)] at h6;refine ⟨_,h6,fun k hk=>hwt k ?_⟩;rw[hx];simp only[DataW.weights,h1];refine DataW.weights_mem_each (j:=i) ?_ ?_ k hk
 ·rw[zx2,hf];rfl
 ·rw[zx2,zz5 (by omega)];rfl
theorem Db{P:Program}{t:TypeId}{α:Type}[Enc α]{B:α→Prop}{H:Type}{enc0:TypeId×Value→H}{w:World}{dV:Nat}{v:Value}{d:DataW H}{p:List MemPlace}(ho:iI P t α B)(hA:Enc.gn α=true)(hst:(match P.underlying t with | some (.struct _) | some (.array _ _)=>true | _=>false)=true)(hv:Value.okWide P w .any dV t v)
  (h:DataW.Trod enc0 P w 0 (fun _=>true) true t v d p) (hwt:∀ k∈d.weights P t,k≤reachBytes):∃ (a:α),B a∧∃ (cs:List Value),bd (enc a) v cs∧ae w (kq w) cA (enc a) cs:=by
 obtain ⟨fuel,h⟩:=h;have hagg:∃ cs,v=.agg cs:=by
  unfold Value.okWide at hv;split at hst
  ·rename_i fs ht;rw[ht] at hv;obtain ⟨cs,h1,_⟩:=hv;exact ⟨cs,h1⟩
  ·rename_i n e ht;rw[ht] at hv;obtain ⟨cs,h1,_⟩:=hv;exact ⟨cs,h1⟩
  ·cases hst
 obtain ⟨cs,rfl⟩:=hagg;have e:(Value.agg cs).cells.toList=cs.toList:=rfl;rw[e] at h;obtain ⟨a,hB,ha⟩:=ho.o8 h hwt;exact ⟨a,hB,cs.toList,by simp[bd,Enc.agg,hA],ha⟩
theorem YS{P:Program}{f:FuncId}{fn:Func}{s:ChangeSpec}{H:Type}{enc0:TypeId×Value→H}{W:World}{ds gs:List (DataW H)}{before:List MemPlace}{xs:List I}{tb:TypeId}{v0 v1:Value}{t0 t1:TypeId}{d0 d1:DataW H}{p0 p1:List MemPlace}{again handsOn jf:Bool}
  (hl:laidOutB P=true) (hpar:fn.params.toList=[t0,t1]) (hds:ds=[d0,d1]) (hgs:gs=[]) (hbef:before=p0++p1)
  (hvars:s.vars=[]) (hfn:s.fn H [d0,d1] = { results:=[.lit (.bool true)],args:=[d0,d1] }) (hres:fn.resultTypes = #[tb]) (htb:P.underlying tb=some .bool)
  (hW:DataW.Whole enc0 P fn.params.toList s.vars false W #[v0,v1].toList ds gs before)
  (h0:DataW.Trod enc0 P W 0 (fun _=>true) true t0 v0 d0 p0) (h1:DataW.Trod enc0 P W 0 (fun _=>true) true t1 v1 d1 p1)
  (hr:∀ t∈[t0,t1],P.readableRec t=true∧t<P.types.size)
  (hctr:aK P f xs (enc true)) (hlaid:eK P W (fun _=>False)) (hv:aB W (kq W) cA xs [v0,v1]) :
  Calls P f #[v0,v1] W fun e W'=>∃ v,e=.returned v∧s.post enc0 P fn false jf handsOn again W #[v0,v1] v W':=by
 subst hds hgs;refine (hctr.2 W (kq W) [v0,v1] hlaid (fun _ _ h=>h) hv).mono fun e W' ⟨v,D',he,hrv,hb,_,_⟩=>⟨v,he,?_⟩
 have hvb:v=.bool true:=kR hrv;subst hvb;have hlt:∀ x∈before,x.block<W.heap.size:=fun x hx=>by simpa using hW.lt x hx
 rw[hbef] at hlt;refine aaJ (pa:=p0++(p1++[])) (pv:=[]) hW (fun _ _ _ =>?_) (fun sp hsp =>?_) (fun _ _ =>?_) (by rw[hbef];simp) hb ?_
 ·simp only[List.append_nil,hfn,hres];exact trodAll_mk1 (shut_bool htb true)
 ·simp only[List.append_nil,hfn,hpar];rw[hbef] at hsp;have aS:∀ {t:TypeId} {v:Value} {d:DataW H} {p:List MemPlace},t∈[t0,t1]→DataW.Trod enc0 P W 0 (fun _=>true) true t v d p→(∀ x∈p,x∈p0++p1)→DataW.Trod enc0 P W' 0 sp true t v d p:=fun ht h hp =>
   WideElems.Trod_stays hl (hr _ ht).1 (hr _ ht).2 h (fun x hx=>hb.same (hlt x (hp x hx))) (fun x hx=>hsp x (hp x hx))
  exact trodAll_mk2 (aS (by simp) h0 fun x hx=>by simp[hx]) (aS (by simp) h1 fun x hx=>by simp[hx])
 ·simp only[List.append_nil,hfn,hvars];rfl
 ·intro j t r hj hv';rw[hres] at hj hv'
  match j,hj,hv' with
  |0,hj,hv' =>
   simp[Value.resultList] at hj hv';subst hj;subst hv';simp[Value.okWide,htb,Cell.okWide,Cell.ok]
end Go.Abs
namespace Go.Abs
open Go Go.RowKit
open Enc (enc)
structure aD where
 b:ByteArray
 deriving DecidableEq,Inhabited
instance:Enc aD where
 enc s:=.ay s.b
 sz:=1
 aL:=.one
 gn:=false
 done _:=rfl
 size _:=by simp[I.size]
 iD _:=by simp[I.aL]
 agg _:=rfl
instance:Enc UInt8 where
 enc b:=.int .u8 b.toNat
 sz:=1
 aL:=.one
 gn:=false
 done _:=rfl
 size _:=by simp[I.size]
 iD _:=by simp[I.aL]
 agg _:=rfl
def aD.l(s:aD):List UInt8:=s.b.data.toList
def aD.of(l:List UInt8):aD:=⟨⟨l.toArray⟩⟩
theorem aD.wv(s:aD):aD.of s.l=s:=by obtain ⟨⟨⟨l⟩⟩⟩:=s;rfl
theorem aD.dC(l:List UInt8):(aD.of l).l=l:=rfl
theorem aD.Oa{s t:aD}(h:s.l=t.l):s=t:=by rw[←aD.wv s,←aD.wv t,h]
theorem aD.tn{s t:List UInt8} : aD.of s=aD.of t↔s=t:=⟨fun h=>by rw[←aD.dC s,h,aD.dC],fun h=>by rw[h]⟩
theorem aD.size(s:aD):s.b.size=s.l.length:=Lib.size_eq s.b
theorem xC(s t:ByteArray):(s.toList==t.toList)=decide ((⟨s⟩:aD)=⟨t⟩):=by
 obtain ⟨⟨l⟩⟩:=s;obtain ⟨⟨m⟩⟩:=t;simp;by_cases h:l=m <;>simp[h]
def Fm(a b:aD):aD:=⟨a.b++b.b⟩
theorem tX(s:aD):enc s=I.ay s.b:=rfl
theorem abK(a b:aD)(h:a.l.length+b.l.length≤9223372036854775807):bS .add (enc a) (enc b)=some (enc (Fm a b)):=by
 rw[←aD.size,←aD.size] at h;simp only[tX,bS,if_pos h,Fm]
theorem xb(a b:aD):bS .eql (enc a) (enc b)=some (.bool (decide (a=b))):=by
 simp only[tX,bS,xC]
theorem xc(a b:aD):bS .neq (enc a) (enc b)=some (.bool (!decide (a=b))):=by
 simp only[tX,bS,xC]
theorem qZ(a:aD):mC (enc a)=some (.int .i64 a.l.length):=by
 simp only[tX,mC,aD.size]
theorem Fu(a:aD){i:Nat}(h:i<a.l.length):eC .dS [enc a,.int .i64 (i:Int)]=some (.int .u8 (a.l[i].toNat:Int)):=by
 show (if 0≤(i:Int) then (a.b.data.toList[(i:Int).toNat]?).map fun b=>I.int .u8 b.toNat else none)=_
 rw[if_pos (by omega),zw8,zz5 (show i<a.b.data.toList.length from h)];rfl
theorem AZ(s:ByteArray)(i j:Nat):(⟨s.extract i j⟩:aD)=aD.of ((s.data.toList.drop i).take (j-i)):=aD.Oa (Lib.extract_data s i j)
theorem xe(a:aD){i:Nat}(h2:i≤a.l.length):eC (.ss true false) [enc a,.int .i64 (i:Int)]=some (enc (aD.of (a.l.drop i))):=by
 show (if 0≤(i:Int)∧(i:Int)≤a.b.size then some (I.ay (a.b.extract (i:Int).toNat a.b.size)) else none)=_
 rw[if_pos ⟨by omega,by rw[aD.size];omega⟩,zw8];refine (congrArg (fun s:aD=>some (enc s)) (AZ a.b i a.b.size)).trans ?_;rw[aD.size,List.take_of_length_le (by simp[aD.l])];rfl
theorem re(a:aD){j:Nat}(h2:j≤a.l.length):eC (.ss false true) [enc a,.int .i64 (j:Int)]=some (enc (aD.of (a.l.take j))):=by
 show (if 0≤(j:Int)∧(j:Int)≤a.b.size then some (I.ay (a.b.extract 0 (j:Int).toNat)) else none)=_
 rw[if_pos ⟨by omega,by rw[aD.size];omega⟩,zw8];exact congrArg (fun s:aD=>some (enc s)) (AZ a.b 0 j)
theorem Fq(n:Int):gz 1 (some [.int .u8 n])=some (.slice 1 [.int .u8 n]):=by
 simp[gz,I.size,I.b7,I.bw]
theorem Fp(A:ab)(n:Int):lj (cT A 1 (.slice 1 [.int .u8 n]))=some (enc (aD.of [UInt8.ofNat n.toNat])):=rfl
theorem rf(b:UInt8):enc b=I.int .u8 (b.toNat:Int):=rfl
theorem Ft(s:aD):lT (enc s)=some (s.l.map enc):=rfl
theorem Fl{A:ab}{d:Nat}{k:ab→cj}{l:List UInt8}(hd:A.o d=none) :
  ∃ p:Nat→Prop,iB A (some d) k (some (l.map enc))=.any p fun m=>k ((A.aN d (.box (.agg ((l++List.replicate m 0).map enc)))).aP (some d) (.view d [] 1 0 l.length)):=by
 refine ⟨fun m=>(l.map enc).length+m≤maxLen,?_⟩;have e:∀ m,(l++List.replicate m (0:UInt8)).map enc=l.map enc++List.replicate m (I.int .u8 0):=fun m=>by
  rw[zx4,List.map_replicate];rfl
 simp only[iB,hd,e,zz2]
theorem ba.eT{P:Program}{Y:Value→List I→List (Nat×ai)→cd→Prop}{K:ab→Prop}{ts:List (Nat×I)}{os:List (Nat×ai)}{d:Nat}{rest:List aC}{l:List UInt8}(hd:aG os d=none)
  (h:∀ m,ba P Y false K (aA rest (al ((d,.view d [] 1 0 l.length)::ts) ((d,.box (.agg ((l++List.replicate m 0).map enc)))::os)))):ba P Y false K (iB (al ts os) (some d) (aA rest) (some (l.map enc))):=by
 obtain ⟨p,e⟩:=Fl (A:=al ts os) (k:=aA rest) (l:=l) hd;rw[e];exact .any rfl fun m _=>h m
theorem A6{A:ab}{n:Nat}{l q:List UInt8}(h:A.o n=some (.box (.agg ((l++q).map enc)))):bf true A (.view n [] 1 0 l.length)=some (enc l):=by
 have h1:bf true A (.view n [] 1 0 l.length)=jD 1 0 l.length (some ((l++q).map enc)):=by
  rw[vz,h];rfl
 have e:jD 1 0 l.length (some ((l++q).map enc))=some (enc ((l++q).take l.length)):=nh rfl;rw[h1,e,List.take_left]
theorem bR.eT{P:Program}{Y:Value→List I→List (Nat×ai)→cd→Prop}{hs:List FuncId}{K:ab→Prop}{ts:List (Nat×I)}{os:List (Nat×ai)}{d:Nat}{rest:List aC}{l:List UInt8}(hd:aG os d=none)
  (h:∀ m,bR P Y hs K (aA rest (al ((d,.view d [] 1 0 l.length)::ts) ((d,.box (.agg ((l++List.replicate m 0).map enc)))::os)))):bR P Y hs K (iB (al ts os) (some d) (aA rest) (some (l.map enc))):=by
 obtain ⟨p,e⟩:=Fl (A:=al ts os) (k:=aA rest) (l:=l) hd;rw[e];exact .any fun m _=>h m
theorem Fs(a:aD):bT none (enc a)=true:=rfl
theorem bu :
  (∀ d rest A p xs,bq A d (.prim p xs) rest=cv (eC p (xs.map (af A))) (cK d rest A))∧(∀ d rest A x,bq A d (.b2s x) rest=cv (lj (cT A 1 (af A x))) (cK d rest A)) ∧
  (∀ b,eC (.ny b) [.cR]=some (.bool (!b)))∧(∀ b t v,eC (.ny b) [.iface t v]=some (.bool b))∧(type_of% @xb)∧(type_of% @xc)∧(type_of% @qZ)∧(type_of% @Fq)∧(type_of% @Fp)∧(type_of% @Fs)∧(∀ d rest A x,bq A d (.eT x) rest=iB A d (aA rest) (lT (af A x)))∧(type_of% @Ft)∧(∀ a b,eC .min2 [.int .i64 a,.int .i64 b]=some (.int .i64 (if b<a then b else a))) ∧
  (∀ a b,bS .eql (.int .u8 a) (.int .u8 b)=some (.bool (a==b)))∧(∀ a b,bS .neq (.int .u8 a) (.int .u8 b)=some (.bool (a != b)))∧(∀ a b,bS .lss (.int .u8 a) (.int .u8 b)=some (.bool (decide (a<b))))∧(∀ a b,bS .gtr (.int .u8 a) (.int .u8 b)=some (.bool (decide (a>b)))) ∧
  (∀ a b,bS .leq (.int .u8 a) (.int .u8 b)=some (.bool (decide (a≤b))))∧(∀ a b,bS .geq (.int .u8 a) (.int .u8 b)=some (.bool (decide (a≥b))))∧(∀ a b,bS .sub (.int .u8 a) (.int .u8 b)=some (.int .u8 (IntKind.u8.wrap (a-b)))) :=
 ⟨fun _ _ _ _ _=>rfl,fun _ _ _ _=>rfl,fun _=>rfl,fun _ _ _=>rfl,xb,xc,qZ,Fq,Fp,Fs,fun _ _ _ _=>rfl,Ft,fun _ _=>rfl,fun _ _=>rfl,fun _ _=>rfl,fun _ _=>rfl,fun _ _=>rfl,fun _ _=>rfl,fun _ _=>rfl,fun _ _=>rfl⟩
end Go.Abs
namespace Go.Abs
open Go
open Enc (enc)
def jC(c:UInt8)(hU:Bool):List UInt8→List (List UInt8)
 | []=>[[]]
 |b::l=>if b=c then (if hU then [b] else [])::jC c hU l else match jC c hU l with
  |h::t=>(b::h)::t
  | []=>[[b]]
theorem ML(c:UInt8)(hU:Bool)(l:List UInt8):jC c hU l≠[]:=by
 cases l with
 |nil=>simp[jC]
 |cons b l =>
  simp only[jC];split
  ·simp
  ·split <;>simp
theorem AA{c:UInt8}{hU:Bool} : ∀ {l:List UInt8},(∀ b∈l,b≠c)→jC c hU l=[l]
 | [],_=>rfl
 |b::l,h=>by
  simp only[jC,if_neg (h b (by simp)),AA (l:=l) fun x hx=>h x (by simp[hx])]
theorem Az{c:UInt8}{hU:Bool} : ∀ {x:List UInt8} (y:List UInt8),(∀ b∈x,b≠c)→jC c hU (x++c::y)=(x++if hU then [c] else [])::jC c hU y
 | [],y,_=>by cases hU <;>simp[jC]
 |b::x,y,h=>by
  simp only[zy2,jC,if_neg (h b (by simp)),Az (x:=x) y fun z hz=>h z (by simp[hz])]
theorem AE{u:Nat}(h:¬ u<10):Lib.decDigits u=Lib.decDigits (u / 10)++[UInt8.ofNat (48+u%10)]:=by
 rw[Lib.decDigits,dif_neg h]
theorem xl{α:Type}[Enc α](A:ab){l:List α}{esz:Nat}{k:Nat}(hs:Enc.sz α=esz)(h:k≤l.length):gH A esz none (some (.int .i64 (k:Int))) none (enc l)=some (enc (l.take k)):=by
 simp only[gH,gO,hs,if_true,hJ,gy,zz2];rw[if_pos (by omega)];simp only[Option.isSome_none,zz4,false_and,if_false,zw8,Int.toNat_zero,List.drop_zero];rw[List.map_take]
end Go.Abs
namespace Go.Abs
open Go Go.Shelf Go.Proofs
open Enc (enc)
theorem HM{w:World}{D:aJ}{x y:aD}{vs:List Value}(hv:aB w D cA [enc x,enc y] vs):vs=[.string x.b,.string y.b]:=by
 have hv':aB w D cA [.ay x.b,.ay y.b] vs:=hv;simp only[aB] at hv';obtain ⟨v,rest,cs,rfl,h1,h2,v2,rest2,cs2,rfl,h3,h4,rfl⟩:=hv';rw[(gb (fD h1 h2)).1,(gb (fD h3 h4)).1]
theorem MI{P:Program}{ρ:Ren}(ao:Lays.n104 P ρ)(hc:dH P (ρ.f 104)=true)(s p:aD):aK P (ρ.f 104) [enc s,enc p] (.tuple [enc (aD.of (Lib.trimSuffix s.l p.l)),enc (Lib.hasSuffix s.l p.l)]):=by
 refine ⟨hc,fun w D vs hl hD hv =>?_⟩;have hsz:s.b.size≤maxLen:=by
  have hv':aB w D cA [.ay s.b,.ay p.b] vs:=hv;simp only[aB] at hv';obtain ⟨v,rest,cs,rfl,h1,h2,_⟩:=hv';exact (gb (fD h1 h2)).2
 rw[HM hv];refine (Any.strings_CutSuffix ao s.b p.b w (by unfold maxLen at hsz;omega)).mono ?_;rintro e w' ⟨rfl,rfl⟩;refine ⟨_,D,rfl,⟨[_,_],rfl,?_⟩,Go.RowKit.Below.refl _ w',hD,fun _ _ h _=>h⟩;simp only[aB];refine ⟨_,_,[_],rfl,by simp[bd,I.isAgg,enc];rfl,?_,_,_,[_],rfl,by simp[bd,I.isAgg,enc];rfl,?_,rfl⟩
 ·show ae _ _ _ (.ay _) _
  simp only[ae];refine ⟨rfl,?_⟩
  show (Lib.trimSuffix s.l p.l).toArray.size≤maxLen
  have h1:(Lib.trimSuffix s.l p.l).length≤s.l.length:=by unfold Lib.trimSuffix;split <;>simp
  rw[aD.size] at hsz;simp only[List.size_toArray];omega
 ·show ae _ _ _ (.bool _) _
  simp only[ae];rfl
def gM(T:TypeId)(l:List UInt8):I:=match Lib.atoiAll l with
 | .ok v=>.tuple [enc v,.cR]
 | .range=>.tuple [enc (Lib.atoiSat l),.iface T .any]
 | _ =>.tuple [enc (0:Int),.iface T .any]
theorem MG {P : Program} {ρ : Ren} (ao : LaysC.n172 P ρ) (hc : dH P (ρ.f 172) = true) (g1 : P.globalNamed "strconv.ErrSyntax" = some (ρ.g 15)) (g2 : P.globalNamed "strconv.ErrRange" = some (ρ.g 16)) {T : TypeId} (hT : ρ.t 168 = T) (s : aD) (hs : s.l.length ≤ 281474976710656) : aK P (ρ.f 172) [enc s] (gM T s.l) := by
 refine ⟨hc,fun w D vs hl hD hv =>?_⟩;subst hT;have hv':aB w D cA [.ay s.b] vs:=hv;simp only[aB] at hv';obtain ⟨v,rest,cs,rfl,h1,h2,rfl⟩:=hv';rw[(gb (fD h1 h2)).1];rw[←aD.size] at hs;obtain ⟨_, hv1, t1, p1, rfl⟩ := hl.sx (n := "strconv.ErrSyntax") (k := .oG) (by simp [nt]) g1
 obtain ⟨_, hv2, t2, p2, rfl⟩ := hl.sx (n := "strconv.ErrRange") (k := .oG) (by simp [nt]) g2
 have fail:∀ (n:Int) (w':World) (N:Nat),IntKind.i64.min≤n∧n≤IntKind.i64.max→Go.RowKit.Below w.heap.size w w' →
   ∃ v D',(Ending.returned (.tuple #[.int .i64 n,.iface (ρ.t 168) (.pointer (some ⟨N,0,none⟩))])=.returned v)∧aQ w' D' cA (.tuple [enc n,.iface (ρ.t 168) .any]) v∧Go.RowKit.Below w.heap.size w w'∧(∀ b o,D' b o→b<w'.heap.size)∧∀ b o,D' b o→b<w.heap.size→D b o:=by
  intro n w' N hn hb;refine ⟨_,D,rfl,⟨[_,_],rfl,?_⟩,hb,fun b o hd=>Nat.lt_of_lt_of_le (hD b o hd) hb.size,fun _ _ h _=>h⟩;simp only[aB];refine ⟨_,_,[_],rfl,by simp[bd,I.isAgg,enc];rfl,?_,_,_,[_],rfl,by simp[bd,I.isAgg];rfl,?_,rfl⟩
  ·show ae _ _ _ (.int .i64 n) _
   simp only[ae,true_and];exact hn
  ·simp only[ae];exact ⟨_,[_],rfl,by simp[bd,I.isAgg];rfl,_,rfl,rfl⟩
 have hmin:IntKind.i64.min=-9223372036854775808:=by decide
 have hmax:IntKind.i64.max=9223372036854775807:=by decide
 cases hr:Lib.atoiAll s.b.data.toList with
 |ok n =>
  refine (Any.strconv_Atoi_ok ao s.b (by omega) n hr w).mono ?_;rintro e w' ⟨rfl,hw⟩;have hb:Go.RowKit.Below w.heap.size w w':=by
   rcases hw with rfl | ⟨t,rfl⟩
   ·exact Go.RowKit.Below.refl _ _
   ·exact Lib.bytesWorld_below _ _ _
  have hn:=Lib.atoiAll_bounds hr;have e0:gM (ρ.t 168) s.l=.tuple [enc n,.cR]:=by
   show gM (ρ.t 168) s.b.data.toList=_
   simp only[gM,hr]
  rw[e0];refine ⟨_,D,rfl,⟨[_,_],rfl,?_⟩,hb,fun b o hd=>Nat.lt_of_lt_of_le (hD b o hd) hb.size,fun _ _ h _=>h⟩;simp only[aB];refine ⟨_,_,[_],rfl,by simp[bd,I.isAgg,enc];rfl,?_,_,_,[_],rfl,by simp[bd,I.isAgg];rfl,?_,rfl⟩
  ·show ae _ _ _ (.int .i64 n) _
   simp only[ae,true_and];rw[hmin,hmax];omega
  ·simp only[ae]
 |range =>
  have e0:gM (ρ.t 168) s.l=.tuple [enc (Lib.atoiSat s.l),.iface (ρ.t 168) .any]:=by
   show gM (ρ.t 168) s.b.data.toList=_
   simp only[gM,hr];rfl
  rw[e0];refine (Any.strconv_Atoi_range_var ao s.b hs hr t2 p2 w hv2).mono ?_;rintro e w' ⟨N,rfl,_,_,hb⟩;have hn:=Lib.atoiSat_bounds s.b.data.toList;exact fail _ w' N (by rw[hmin,hmax];exact hn) hb
 | _ =>
  have e0:gM (ρ.t 168) s.l=.tuple [enc (0:Int),.iface (ρ.t 168) .any]:=by
   show gM (ρ.t 168) s.b.data.toList=_
   simp only[gM,hr]
  rw[e0];refine (Any.strconv_Atoi_syntax_var ao s.b hs hr t1 p1 w hv1).mono ?_;rintro e w' ⟨N,rfl,_,_,hb⟩;exact fail 0 w' N (by rw[hmin,hmax];omega) hb
end Go.Abs
namespace Go.Abs
open Go Go.Shelf Go.Proofs
open Enc (enc)
def vU(n:Int):aD:=aD.of (Lib.itoa n)
open Go.Sort Go.RowKit in
theorem uT(w:World)(k:Nat)(os:Array Obj):Go.RowKit.Below w.heap.size w (grow (w.drewN k) os) :=
 ⟨rfl,rfl,rfl,by simp,fun i hi=>by rw[heap_grow_old _ _ (by simpa using hi)];rfl⟩
theorem MK{P:Program}{ρ:Ren}(ao:LaysM.n171 P ρ)(hc:dH P (ρ.f 171)=true){g:Nat}(hg:P.globalNamed sO=some g)(n:Int):aK P (ρ.f 171) [enc n] (enc (vU n)):=by
 refine ⟨hc,fun w D vs hl hD hv =>?_⟩;have hv':aB w D cA [.int .i64 n] vs:=hv;simp only[aB] at hv';obtain ⟨v,rest,cs,rfl,h1,h2,rfl⟩:=hv';obtain ⟨rfl,h3,h4⟩:=dh (fD h1 h2);have h3':-9223372036854775808≤n:=h3;have h4':n≤9223372036854775807:=h4;obtain ⟨_,htab,rfl⟩:=hl.sx (n:=sO) (k:=.tE) (by simp[nt]) hg;refine (Any.strconv_Itoa ao n h3' h4' w htab).mono ?_;rintro e w' ⟨rfl,k,os,rfl⟩;refine ⟨_,D,rfl,⟨[.string ⟨(Lib.itoa n).toArray⟩],by simp[bd,I.isAgg,enc],?_⟩,uT w k os,fun b o hd=>Nat.lt_of_lt_of_le (hD b o hd) (uT w k os).size,fun _ _ h _=>h⟩;have hlen:=Lib.itoa_length_le n h3' h4'
 show ae _ _ _ (.ay _) _
 simp only[ae];refine ⟨rfl,?_⟩
 show (Lib.itoa n).toArray.size≤maxLen
 simp only[List.size_toArray,maxLen];omega
theorem xB{w:World}{D:aJ}{s:aD}{p:List I}{vs:List Value}(hv:aB w D cA (enc s::p) vs):∃ rest,vs=.string s.b::rest∧s.b.size≤maxLen∧aB w D cA p rest:=by
 have hv':aB w D cA (.ay s.b::p) vs:=hv;simp only[aB] at hv';obtain ⟨v,rest,cs,rfl,h1,h2,h3⟩:=hv';obtain ⟨rfl,h4⟩:=gb (fD h1 h2);exact ⟨rest,rfl,h4,h3⟩
theorem Fg{w:World}{D:aJ}{E:aO}{l:List UInt8}(h:l.length≤maxLen):aQ w D E (enc (aD.of l)) (.string ⟨l.toArray⟩):=by
 refine ⟨[.string ⟨l.toArray⟩],by simp[bd,I.isAgg,enc,aD.of],?_⟩
 show ae _ _ _ (.ay _) _
 simp only[ae];exact ⟨rfl,by show l.toArray.size≤maxLen;simpa using h⟩
theorem MJ{P:Program}{ρ:Ren}(ao:Lays.n137 P ρ)(hc:dH P (ρ.f 137)=true)(s:aD)(c:UInt8):aK P (ρ.f 137) [enc s,.int .u8 c.toNat] (enc (Lib.indexByte s.l c)):=by
 refine ⟨hc,fun w D vs hl hD hv =>?_⟩;obtain ⟨rest,rfl,hsz,hv2⟩:=xB hv;simp only[aB] at hv2;obtain ⟨v,rest2,cs,rfl,h1,h2,rfl⟩:=hv2;obtain ⟨rfl,_⟩:=dh (fD h1 h2);have key:=Any.strings_IndexByte ao s.b (c.toNat:Int) w;have hcc:((c.toNat:Int)).toNat.toUInt8=c:=by simp
 rw[hcc] at key;refine Calls.mono key ?_;rintro e w' ⟨rfl,rfl⟩;refine ⟨_,D,rfl,⟨[_],by simp[bd,I.isAgg,enc];rfl,?_⟩,Go.RowKit.Below.refl _ w',hD,fun _ _ h _=>h⟩
 show ae _ _ _ (.int .i64 (Lib.indexByte s.l c)) _
 simp only[ae];refine ⟨rfl,?_⟩;have g1:=Lib.indexByte_ge s.l c;have g2:∀ l:List UInt8,Lib.indexByte l c≤l.length:=by
  intro l
  induction l with
  |nil=>simp[Lib.indexByte]
  |cons b l ih =>
   unfold Lib.indexByte
   (repeat' split) <;>simp only[zw0] <;>omega
 have g3:=g2 s.l;rw[aD.size] at hsz;have hmin:IntKind.i64.min=-9223372036854775808:=by decide
 have hmax:IntKind.i64.max=9223372036854775807:=by decide
 unfold maxLen at hsz;rw[hmin,hmax];omega
theorem MH{P:Program}{ρ:Ren}(ao:LaysM.n316 P ρ)(hc:dH P (ρ.f 316)=true)(s:aD)(hs:s.l.length≤281474976710656):aK P (ρ.f 316) [enc s] (enc s):=by
 refine ⟨hc,fun w D vs hl hD hv =>?_⟩;obtain ⟨rest,rfl,hsz,hv2⟩:=xB hv;simp only[aB] at hv2;subst hv2;refine (Any.stringslite_Clone ao s.b w (by rw[aD.size];exact hs)).mono ?_;rintro e w' ⟨rfl,hb⟩;refine ⟨_,D,rfl,⟨[_],by simp[bd,I.isAgg,enc];rfl,?_⟩,hb,fun b o hd=>Nat.lt_of_lt_of_le (hD b o hd) hb.size,fun _ _ h _=>h⟩
 show ae _ _ _ (.ay s.b) _
 simp only[ae,true_and];exact hsz
end Go.Abs
namespace Go.Abs
open Go
theorem AF:∀ (k n:Nat),n<10^(k+1)→(Lib.decDigits n).length≤k+1
 |0,n,h=>by rw[Lib.decDigits_one (by omega)];simp
 |k+1,n,h=>by
  by_cases q:n<10
  ·rw[Lib.decDigits_one q];simp
  ·rw[AE q,zz1];have:=AF k (n / 10) (by rw[Nat.pow_succ] at h;omega);simp only[zw0,zx9];omega
theorem qv{k:Nat}{n:Int}(h:0≤n∧n<((10^(k+1):Nat):Int)):(Lib.itoa n).length≤k+1:=by
 obtain ⟨m,rfl⟩:=zx0 h.1;rw[Lib.itoa_nonneg];exact AF k m (by omega)
end Go.Abs
namespace Go.Abs
open Go Go.RowKit
open Enc (enc)
def nq:Option Nat→Code
 |none=>.ret
 |some id=>.exit id
def p6:Option Nat→Exit
 |none=>.ret
 |some id=>.exit id
def oa(o:Obj)(A:ab)(os:List (Nat×ai)):Prop:=∀ n x,aG (bE o os) n=some x→A.o n=some x∧x.only (aw (bE o os))=true∧x.dO=true
def wZ(o:Obj)(In:List (Nat×ai)→Prop)(Ix:Option Nat→List (Nat×ai)→Prop):Exit→ab→Prop
 | .normal,A=>∃ os,oa o A os∧In os
 | .ret,A=>∃ os,oa o A os∧Ix none os
 | .exit id,A=>∃ os,oa o A os∧Ix (some id) os
 |_,_=>False
def Hd(P:Program)(nn:Nat)(x y:bh)(ps:List Nat)(tsR:List (Nat×I))(N:Nat)(item:Nat→List I)(aW:Nat→List (Nat×ai)→Prop)(Ix:Option Nat→List (Nat×ai)→Prop):Prop :=
 ∀ k osb,k<N→aW k osb→∀ (w:World) (D:aJ) (E:aO) (l:Nat) (o1 o2:Obj),
  U ⟨P,w,D,nn,bU E,E,e8,some l,none⟩ x (cg (fun B=>B.o 1999999=some (.cz o1)∧U ⟨P,w,D,nn,bU E,E,e8,some l,none⟩ y (wZ o2 (aW (k+1)) Ix) (B.aN 1999999 (.cz o2))) (fun _ _=>False)) (al (pd ps (item k) tsR) (bE o1 osb))
section
variable {c:ct} {Q:Exit→ab→Prop}
theorem BZ{o:Obj}{A:ab}{os:List (Nat×ai)}(h:oa o A os)(o':Obj):∀ n x,aG (bE o' os) n=some x→(A.aN 1999999 (.cz o')).o n=some x∧x.only (aw (bE o' os))=true∧x.dO=true:=fun n x hx=>by
 have e:aw (bE o' os)=aw (bE o os):=by funext m;rw[iq,iq]
 rw[e];by_cases hn:n=1999999
 ·subst hn;rw[mD,if_pos rfl,v6] at hx;subst hx;exact ⟨by simp[ab.aN],rfl,rfl⟩
 ·rw[mD,if_neg hn] at hx;obtain ⟨h1,h2⟩:=h n x (by rw[mD,if_neg hn];exact hx);exact ⟨by simp only[ab.aN,if_neg hn];exact h1,h2⟩
theorem U.jN{f:aF}{ps:List Nat}{x y:bh}{ts tsR:List (Nat×I)}{os0 osb0:List (Nat×ai)}{ρ:List (Nat×Nat)}{g:FuncId}{caps:List I}{N:Nat}{item:Nat→List I}
  (aW:Nat→List (Nat×ai)→Prop) (Ix:Option Nat→List (Nat×ai)→Prop) (hr0:c.pf=none∧c.dV=none) (hn6:c.n≤1000000)
  (hf:af (al ts os0) f=.func g caps) (hcl:I.b7 caps=true) (hcb:dH c.P g=true) (jg:yh c.P g caps N item) (hlen:∀ k,(item k).length=ps.length)
  (hfree:aG os0 999999=none) (h19:aw osb0 1999999=false) (hρ:bo ρ 1999999=999999)
  (hgv:∀ o,eF ρ (bE o osb0) ((999999,.cz o)::os0)) (hts:jt ρ (aw osb0) ts tsR)
  (hI:∀ k os,aW k os→dM osb0 os) (hIx:∀ e os,Ix e os→dM osb0 os) (h0:aW 0 osb0)
  (hround:Hd c.P c.n x y ps tsR N item aW Ix)
  (hdone:∀ os,aW N os→Q .normal (al ts (cD ρ os++os0))) (hexit:∀ e os,Ix e os→Q (p6 e) (al ts (cD ρ os++os0))) :
  U c (.jN f ps x y) Q (al ts os0):=by
 obtain ⟨hr,hbase⟩:=hr0;intro code hc a w hs;cases code <;>simp only[dG] at hc <;>try (first | (cases hc;done) | ((repeat' split at hc) <;>cases hc;done))
 rename_i cf cps cx cy;split at hc
 case h_2=>cases hc
 rename_i f' x' y' hcf hcx hcy;split at hc
 case isFalse=>cases hc
 rename_i hpn;simp only[v6,bh.jN.injEq] at hc;obtain ⟨rfl,rfl,rfl,rfl⟩:=hc;obtain ⟨D,E,hs⟩:=hs;have hF:c.bj=Fence.wide:=by unfold ct.bj;rw[hr]
 have hE0:c.cA 999999=none:=hs.jf (.inr (by decide));have hval:∃ vs:List Value,a.eval cf=.func (.func g) #[] vs.toArray∧aB w D E caps vs:=by
  have hv:=br hs hcf;rw[hf] at hv;obtain ⟨cs,q1,q2⟩:=hv;simp only[ae] at q2;obtain ⟨vs,q3,q4⟩:=q2;exact ⟨vs,by rw[←lB (u3 hcb)];simpa[bd,I.isAgg,q3] using q1.symm,q4⟩
 obtain ⟨vs,hval,hvs⟩:=hval;rw[hF];refine wpIn_rangeFunc fun fn hfn =>?_;obtain ⟨rec,hrec⟩:∃ rec:LoopState→Option Code→Loop,rec=fun aS pe => { state:=aS,pending:=pe,fn,tmps:=a.tmps,params:=cps,assign:=cx,body:=cy,defers:=w.heap.size } :=⟨_,rfl⟩
 obtain ⟨E1,hs1,hE1,hup⟩:=hs.enter hbase hfree hE0 (o:=.loop (rec .ready none)) rfl;obtain ⟨W1,hW1⟩:∃ W1,(w.alloc (.deferred (some []))).alloc (.loop (rec .ready none))=W1:=⟨_,rfl⟩
 rw[hW1] at hs1 hup;obtain ⟨l,hl⟩:∃ l,l=w.heap.size+1:=⟨_,rfl⟩
 rw[←hl] at hE1;obtain ⟨yv,hyv⟩:∃ yv:Value,yv=.func (.yield l) #[] #[]:=⟨_,rfl⟩
 obtain ⟨a1,ha1⟩:∃ a1:Act,a1 = { a with defers := { target:=.collected w.heap.size,args := #[] } :: a.defers } :=⟨_,rfl⟩
 rw[←ha1] at hs1;refine ⟨l,[{ target:=.collected w.heap.size,args := #[] }],W1,{ target:=.fn (.func g) vs.toArray,args := #[yv] },W1,g,#[yv]++vs.toArray,W1,?_,?_,?_,?_,fun _=>by decide,?_⟩
 ·rw[←hW1,hrec,hl];exact run_enterLoop_outer _ _ _ _ _
 ·simp only[resolve,hval,hyv];simp[go_sem]
 ·intro f' _;trivial
 ·simp only[invoke,lR hcb]
 ·-- the iterator's own bargain
  have hG0:=hI 0 osb0 h0;obtain ⟨I',hI'⟩:∃ I':Nat→List (Nat×ai)→Prop,I'=fun k os=>∃ osb,os=bE (.loop (rec .ready none)) osb∧aW k osb:=⟨_,rfl⟩
  obtain ⟨Ix',hIx'⟩:∃ Ix':List (Nat×ai)→Prop,Ix'=fun os=>∃ e osb,os=bE (.loop (rec .done (some (nq e)))) osb∧Ix e osb:=⟨_,rfl⟩
  obtain ⟨os1,hos1⟩:∃ os1,os1=bE (.loop (rec .ready none)) osb0:=⟨_,rfl⟩
  obtain ⟨Y,hY⟩:∃ Y:Value→List I→List (Nat×ai)→cd→Prop,Y=fun v args os post=>v=yv∧∃ k,args=item k∧k<N∧I' k os∧∀ r os2,(r=.bool true∧I' (k+1) os2)∨(r=.bool false∧Ix' os2)→post r os2:=⟨_,rfl⟩
  have gS:∀ k os',I' k os'→dM os1 os':=fun k os' h=>by
   rw[hI'] at h;obtain ⟨osb,rfl,h⟩:=h;rw[hos1];exact (hI k osb h).bE _ _
  have goodx:∀ os',Ix' os'→dM os1 os':=fun os' h=>by
   rw[hIx'] at h;obtain ⟨e,osb,rfl,h⟩:=h;rw[hos1];exact (hIx e osb h).bE _ _
  have hctr:=jg Y yv I' Ix' os1 (by rw[hyv];rfl) (fun k os' post hk h1 h2=>by rw[hY];exact ⟨rfl,k,rfl,hk,h1,h2⟩) gS goodx (by rw[hI'];exact ⟨osb0,hos1,h0⟩);have hgv1:eF ρ os1 ((999999,.cz (.loop (rec .ready none)))::os0):=by rw[hos1];exact hgv _
  obtain ⟨A0,hA0⟩:∃ A0:ab,A0=al ts ((999999,.cz (.loop (rec .ready none)))::os0):=⟨_,rfl⟩
  have hand:me (Calls c.P g) (fun w D E=>∀ n,mg ⟨c.P,w,D,n,bU E,E,Y,none,none⟩) (.raw yv::caps) os1 (fun r os'=>r=.tuple []∧(I' N os'∨Ix' os')):=fun w D E vs hy hlive hheld hv=>by
   refine (hctr.2 w D E vs hy hlive hheld hv).mono fun e w' ⟨v,he,D',E',r,os',q⟩=>⟨v,D',E',r,os',he,q⟩
  have hshare:=hs1.mR;obtain ⟨Dh,hDh⟩:∃ Dh,Dh=mQ (al ts ((999999,.cz (.loop (rec .ready none)))::os0)) D E1:=⟨_,rfl⟩
  rw[←hDh] at hshare;have hsh:=hshare.1;obtain ⟨Eh,hEh⟩:∃ Eh,Eh=az ρ os1 E1:=⟨_,rfl⟩
  have isrec:aw os1 1999999=true:=by rw[hos1,iq];simp
  have hEl:Eh 1999999=some (.op l):=by rw[hEh];simp only[az,isrec,if_true,hρ];exact hE1
  have EhIn:∀ n e,Eh n=some e→aw os1 n=true:=fun n e h=>by
   rw[hEh] at h;simp only[az] at h;split at h
   ·assumption
   ·cases h
  have hyok:∀ n,mg ⟨c.P,W1,Dh,n,bU Eh,Eh,Y,none,none⟩:=by
   refine fun n=>⟨by rw[hEh];exact hs1.nr,?_⟩
   intro v' args os' post' hYv w2 D2 E2 vs2 hsince hlive hheld hrvs;rw[hY] at hYv;obtain ⟨rfl,k,rfl,hkN,hIk,hpost⟩:=hYv;have hIk0:=hIk;rw[hI'] at hIk;obtain ⟨osb,rfl,hIk⟩:=hIk;have gk:=gS k _ hIk0;have gkb:=hI k osb hIk;have in2:∀ m,aw os1 m=true→E2 m≠none:=fun m hm=>by
    rw[←gk.same m] at hm;cases hx:aG (bE (.loop (rec .ready none)) osb) m with
    |none=>simp[aw,hx] at hm
    |some x=>have:=hheld.bx m;rw[hx] at this;exact mI this
   have same2:∀ m e,Eh m=some e→e.dO=true→E2 m=some e:=fun m e he hfx=>by
    rcases hsince.df m e he with h | ⟨e',h,hle⟩
    ·exact absurd h (in2 m (EhIn m e he))
    ·rw[hle.eq hfx] at h;exact h
   have hEl2:E2 1999999=some (.op l):=same2 _ _ hEl rfl;have hob:=hheld.bx 1999999;rw[mD,if_pos rfl] at hob;obtain ⟨b,j1,_,j3,_,_⟩:=hob;rw[hEl2] at j1;cases j1;have hsz:vs2.toArray.size=cps.size:=by have:=pj hrvs;rw[hlen] at this;simpa using this
   have hyr:=run_yield (P:=c.P) (args:=vs2.toArray) j3 (by rw[hrec];exact hsz);rw[hrec] at hyr;refine ⟨l,hyv,fn,_,cx,cy,hyr,roundIn_of_wpIn trivial ?_⟩;clear hyr
   -- the round's own frame
   obtain ⟨cr,hcr⟩:∃ cr:ct,cr=⟨c.P,w2,D2,c.n,bU E2,E2,e8,some l,none⟩:=⟨_,rfl⟩
   have hFr:cr.bj=Fence.wide.inRound l:=by rw[hcr];rfl
   have hlat:da W1 Dh Eh w2 D2 E2:=by
    refine ⟨hsince.cE,hsince.fm.cell,fun m b aL he=>same2 m _ he rfl,fun m aH l he =>?_,fun m b he=>same2 m _ he rfl,fun m b he=>same2 m _ he rfl,hsince.fm.iu⟩;rcases hsince.df m _ he with h | ⟨e',h,hle⟩
    ·exact absurd h (in2 m (EhIn m _ he))
    ·rcases hle with rfl | ⟨_,_,blk',l',e,rfl,k1,k2⟩
     ·exact ⟨aH,l,h,zz8 _,fun _=>rfl⟩
     ·cases e;exact ⟨blk',l',h,k1,k2⟩
   have hslots:jt ρ (aw os1) ts tsR:=by
    have:∀ tsR:List (Nat×I),jt ρ (aw osb0) ts tsR→jt ρ (aw os1) ts tsR:=by
     intro tsR
     induction tsR with
     |nil=>exact fun h=>h
     |cons q r ih =>
      intro h;obtain ⟨h1,h2,h3⟩:=h;exact ⟨h1,jn (fun n hn=>by rw[hos1,iq,hn];simp) _ h2,ih h3⟩
    exact this tsR hts
   have hsr:aM cr (al tsR (bE (.loop (rec .ready none)) osb)) { tmps:=a.tmps,defers:=[] } w2 D2 E2:=by
    rw[hcr];refine ⟨hs.sz,⟨[],rfl,.nil,fun _ h=>by simp at h⟩,fun t =>?_,eb.refl _ _,fun _ _ h _=>h,hlive,fun m=>(hheld.bx m).jk fun e b he hb=>.inr ⟨m,e,he,hb⟩,hheld.cG,fun _ e h=>.inr ⟨e,h,.refl e⟩,fun m hm =>?_,fun _ _ h=>h,⟨hsince.oR,fun _ _ _ _ h=>h.elim⟩,.refl _ _⟩
    ·rcases xn hslots t with h | ⟨h1,h2⟩
     ·simp only[al];rw[h];simp[aQ]
     ·have h3:=hsh.dn t;rw[ha1] at h3;simp only[al] at h3 ⊢;rw[h1] at h3;have h4:=(aQ.aR (w:=W1) (D:=Dh) (p:=aw os1) (ρ:=bo ρ) (E:=Eh) (E':=E1) (fun n hn=>by rw[hEh];simp only[az,hn,if_true]) h2).1 h3;exact aQ.later hlat h4
    ·have hmi:aw os1 m=true:=by
      rw[←gk.same m];have:=hheld.bx m;cases hx:aG (bE (.loop (rec .ready none)) osb) m with
      |none=>rw[hx] at this;exact absurd this hm
      |some x=>simp[aw,hx]
     have:=gk.j5 m hmi;exact ⟨Nat.le_trans hn6 this,this⟩
   have hsp:=aM.wO cps.toList vs2 (item k) tsR _ hsr (fun p hp=>by rw[hcr];have:=zx3.1 hpn p hp;simpa using this) hrvs (by have:=hsz;simpa using this.symm);have htm:(cps.zip vs2.toArray).foldl (fun t (q:Tmp×Value)=>t.setIfInBounds q.1 q.2) a.tmps=(cps.toList.zip vs2).foldl (fun t q=>t.setIfInBounds q.1 q.2) a.tmps:=by
    rw[←Array.foldl_toList];simp
   have hx:=hround k osb hkN hIk w2 D2 E2 l (.loop (rec .ready none)) (.loop { rec .ready none with state:=.busy });rw[←hcr] at hx;have hx1:=hx cx (by rw[hcr];exact hcx) _ w2 ⟨D2,E2,hsp⟩;rw[hFr] at hx1;simp only[←htm] at hx1;rw[hcr] at hx1;refine wpIn_mono hx1 ?_;rintro e ax wx ⟨B,hq,hsx⟩;rw[←hcr] at hq hsx;cases e <;>simp only[cg] at hq <;>try exact hq.elim
   simp only[Exit.then];obtain ⟨hB1,hB2⟩:=hq;obtain ⟨Dx,Ex,hsx⟩:=hsx;have hElx:Ex 1999999=some (.op l):=by
    have ho:=hsx.bx 1999999;rw[hB1] at ho;rcases hsx.qf (n:=1999999) (by rw[hcr];exact hEl2) rfl with h | h
    ·exact absurd h (mI ho)
    ·exact h
   have hLx:wx.heap[l]?=some (.loop (rec .ready none)):=by
    have ho:=hsx.bx 1999999;rw[hB1] at ho;obtain ⟨b,k1,_,k3,_⟩:=ho;rw[hElx] at k1;cases k1;exact k3
   refine ⟨_,run_beginRound hLx (by rw[hrec]),?_⟩;have hsb:=hsx.pt (o':=.loop { rec .ready none with state:=.busy }) hB1 hElx rfl;have hy1:=hB2 cy (by rw[hcr];exact hcy) _ _ ⟨Dx,Ex,hsb⟩;rw[hFr] at hy1;rw[hcr] at hy1;refine wpIn_mono hy1 ?_;rintro e a3 w3 ⟨A3,hq3,D3,E3,hs3⟩;rw[←hcr] at hs3
   -- the end of the round
   have bf:∀ (os:List (Nat×ai)) (jump:Option Code),oa (.loop { rec .ready none with state:=.busy }) A3 os→(post' (.bool jump.isNone) (bE (.loop (rec (if jump.isNone then .ready else .done) jump)) os)) →
     ∃ v w',(Instr.endRound l jump).run c.P w3=.ok v w'∧(fun e w'=>∃ v D' E' r os',e=Ending.returned v∧post' r os'∧aQ w' D' E' r v∧iX (fun b=>w2.heap.size≤b∨bU E2 b) w' D' E' (aG os') ∧
      eb (fun b=>w2.heap.size≤b∨bU E2 b) w2 w'∧(∀ b o,D2 b o→D' b o)∧(∀ b o,D' b o→b<w'.heap.size)∧(∀ b o,D' b o→b<w2.heap.size→¬ bU E2 b→D2 b o) ∧
      (∀ n e,E2 n=some e→aw os' n=true→∃ e',E' n=some e'∧e.fA e')∧fS w2 D2 w') (.returned v) w':=fun os jump hbk hp=>by
    have hA3:A3.o 1999999=some (.cz (.loop { rec .ready none with state:=.busy })):=(hbk 1999999 _ (by rw[mD,if_pos rfl])).1;have hEl3:E3 1999999=some (.op l):=by
     have ho:=hs3.bx 1999999;rw[hA3] at ho;rcases hs3.qf (n:=1999999) (by rw[hcr];exact hEl2) rfl with h | h
     ·exact absurd h (mI ho)
     ·exact h
    have hL3:w3.heap[l]?=some (.loop { rec .ready none with state:=.busy }):=by
     have ho:=hs3.bx 1999999;rw[hA3] at ho;obtain ⟨b,k1,_,k3,_⟩:=ho;rw[hEl3] at k1;cases k1;exact k3
    have hend:=run_endRound (P:=c.P) jump hL3;have erec:({ rec .ready none with state:=if jump.isNone then LoopState.ready else .done,pending:=jump } : Loop)=rec (if jump.isNone then .ready else .done) jump:=by rw[hrec]
    have hend':(Instr.endRound l jump).run c.P w3=.ok (.bool jump.isNone) (w3.putObj l (.loop (rec (if jump.isNone then .ready else .done) jump))):=by
     rw[hend];rw[hrec]
    have hs4:=hs3.pt (o':=.loop (rec (if jump.isNone then .ready else .done) jump)) hA3 hEl3 rfl;rw[hcr] at hs4;obtain ⟨D',E',_,_,_,q1,q2,q3,q4,q5,q6⟩:=hs4.sS (BZ hbk _);exact ⟨_,_,hend',_,D',E',.bool jump.isNone,_,rfl,hp,⟨[.bool jump.isNone],by simp[bd,I.isAgg],by simp[ae]⟩,q1,q2,q3,q4,q5,q6⟩
   cases e with
   |normal =>
    obtain ⟨os,hbk,hin⟩:=hq3;exact bf os none hbk (hpost _ _ (.inl ⟨rfl,by rw[hI'];exact ⟨os,rfl,hin⟩⟩))
   |ret =>
    obtain ⟨os,hbk,hin⟩:=hq3;exact bf os (some .ret) hbk (hpost _ _ (.inr ⟨rfl,by rw[hIx'];exact ⟨none,os,rfl,hin⟩⟩))
   |exit id =>
    obtain ⟨os,hbk,hin⟩:=hq3;exact bf os (some (.exit id)) hbk (hpost _ _ (.inr ⟨rfl,by rw[hIx'];exact ⟨some id,os,rfl,hin⟩⟩))
   |goto t=>exact hq3.elim
   |panic ch=>exact hq3.elim
   |outgrown=>exact hq3.elim
  -- the call
  have hargs:dX (aQ W1 D E1) (.raw yv::caps) (yv::vs):=by
   exact .cons ⟨[yv],by simp[bd,I.isAgg],by rw[hyv];exact ⟨rfl,rfl⟩⟩ (nO (hup caps vs hvs))
  have hus:=hand.use (ρ:=ρ) hs1 false (fun h=>h.mono) ⟨(fun h=>by cases h),fun _=>by rw[←hDh,←hEh];exact hyok⟩ hgv1 (uL _ (by simp[I.b7,I.bw,hcl]))
   (fun r os' hp=>by
    have gg:dM os1 os':=by
     rcases hp.2 with h | h
     ·exact gS _ _ h
     ·exact goodx _ h
    refine ⟨fun m x hx=>⟨(gg.ok m x hx).1,(gg.ok m x hx).2,fun h=>by cases h⟩,fun m m' h1 h2=>hgv1.inj m m' (by rw[←gg.same];exact h1) (by rw[←gg.same];exact h2),fun m hm=>by rw[gg.same];exact hm,fun m h1 h2=>(by rw[gg.same,h2] at h1;cases h1),(by rw[hp.1];simp[I.only,I.cB]),fun h=>by cases h⟩) hargs
  have ecl : #[yv]++vs.toArray=(yv::vs).toArray:=by simp
  rw[ecl];refine CallsIn.mono (callsIn_wide.2 hus) ?_;rintro e w3 ⟨v,r,os',D2,E2,rfl,hp,hs2,_,hE2⟩;have key:∀ (o3:Obj) (osb:List (Nat×ai)),os'=bE o3 osb→mB o3=true→E2 999999=some (.op l)∧w3.heap[l]?=some o3∧∀ o4,mB o4=true→bG c (al ts (cD ρ osb++os0)) a1 (w3.putObj l o4):=fun o3 osb he h3=>by
   subst he;have hn2:E2 999999=some (.op l):=by
    obtain ⟨e',h1,h2⟩:=hE2 1999999 (.op l) (by rw[←hEh];exact hEl) (by rw[iq];simp);rw[hρ] at h1;rw[h1,h2.eq rfl]
   have eos:cD ρ (bE o3 osb)=(999999,.cz o3)::cD ρ osb:=by simp only[bE,cD,zz7,hρ,ai.aR]
   rw[eos] at hs2;have ha:(al ts ((999999,ai.cz o3)::cD ρ osb++(999999,.cz (.loop (rec .ready none)))::os0)).o 999999=some (.cz o3):=by simp[al,aG]
   have hgb:∀ m,aw osb m=true→bo ρ m≠999999:=fun m hm e=>by
    have h5:aw (bE o3 osb) m=true:=by rw[iq,hm];simp
    have g5:dM os1 (bE o3 osb):=by
     rcases hp.2 with h | h
     ·exact gS _ _ h
     ·exact goodx _ h
    have h6:=hgv1.inj m 1999999 (by rw[←g5.same];exact h5) isrec (by rw[hρ];exact e);subst h6;have h7:dM osb0 osb:=by
     rcases hp.2 with h | h
     ·rw[hI'] at h;obtain ⟨osb',h8,h9⟩:=h;simp only[bE,zy6] at h8;rw[h8.2];exact hI _ _ h9
     ·rw[hIx'] at h;obtain ⟨e,osb',h8,h9⟩:=h;simp only[bE,zy6] at h8;rw[h8.2];exact hIx _ _ h9
    rw[h7.same,h19] at hm;cases hm
   refine ⟨hn2,?_,fun o4 h4 =>?_⟩
   ·have ho:=hs2.bx 999999;rw[ha] at ho;obtain ⟨b,k1,_,k3,_⟩:=ho;rw[hn2] at k1;cases k1;exact k3
   ·have h5:=(hs2.pt (o':=o4) ha hn2 h4).AJ hn2;have hst:(⟨((al ts ((999999,ai.cz o3)::cD ρ osb++(999999,.cz (.loop (rec .ready none)))::os0)).aN 999999 (.cz o4)).t,fun m=>if m=999999 then none else
      ((al ts ((999999,ai.cz o3)::cD ρ osb++(999999,.cz (.loop (rec .ready none)))::os0)).aN 999999 (.cz o4)).o m⟩:ab)=al ts (cD ρ osb++os0):=by
     simp only[al,ab.aN]
     congr 1
     funext m
     by_cases hm:m=999999
     ·subst hm;simp only[if_true,oU];cases hq:pre ρ osb 999999 with
      |none=>exact hfree.symm
      |some k=>exact absurd (kd hq).2 (hgb k (kd hq).1)
     ·simp only[if_neg hm,zy2,aG,oU]
    rw[hst] at h5;exact ⟨D2,_,h5⟩
  rcases hp.2 with h | h
  ·rw[hI'] at h;obtain ⟨osb,he,hin⟩:=h;obtain ⟨k1,k2,k3⟩:=key _ osb he rfl;refine ⟨none,_,(by have:=run_endLoop (P:=c.P) k2 (by rw[hrec];simp);rw[hrec] at this;exact this),_,hdone osb hin,?_⟩;have:=k3 (.loop { rec .ready none with state:=.exhausted }) rfl;rw[ha1] at this;rw[hrec] at this;exact this
  ·rw[hIx'] at h;obtain ⟨e,osb,he,hin⟩:=h;obtain ⟨k1,k2,k3⟩:=key _ osb he rfl;refine ⟨some (nq e),_,(by have:=run_endLoop (P:=c.P) k2 (by rw[hrec];simp);rw[hrec] at this;exact this),?_⟩;have:=k3 (.loop { rec .done (some (nq e)) with state:=.exhausted }) rfl;rw[ha1] at this;rw[hrec] at this;have hq:qz c Q (p6 e) { a with defers := { target:=.collected w.heap.size,args := #[] } :: a.defers } _:=⟨_,hexit e osb hin,this⟩
   cases e with
   |none=>exact wpIn_ret hq
   |some id=>exact wpIn_exit hq
end
mutual
theorem nI{ρ:Nat→Nat}(h:∀ n,ρ n=n):∀ x:I,x.aR ρ=x
 | .agg fs | .tuple fs=>by simp only[I.aR];rw[lP h fs]
 | .slice _ es=>by simp only[I.aR];rw[lP h es]
 | .ref x=>by simp only[I.aR];rw[nI h x]
 | .func _ caps=>by simp only[I.aR];rw[lP h caps]
 | .iface _ v=>by simp only[I.aR];rw[nI h v]
 | .ptr _ _ | .own _ _ | .view _ _ _ _ _ | .mref _ | .cU _=>by simp only[I.aR,h]
 | .cu ks vs=>by simp only[I.aR];rw[lP h ks,lP h vs]
 | .bool _ | .int _ _ | .ay _ | .nilp | .cZ | .cR | .any | .raw _ | .nils _ | .c0 _ | .undef | .cV=>by simp only[I.aR]
theorem lP{ρ:Nat→Nat}(h:∀ n,ρ n=n):∀ xs:List I,I.cP ρ xs=xs
 | []=>rfl
 |x::xs=>by simp only[I.cP];rw[nI h x,lP h xs]
end
theorem ai.nI{ρ:Nat→Nat}(h:∀ n,ρ n=n):∀ x:ai,x.aR ρ=x
 | .box x=>by simp only[ai.aR,Abs.nI h]
 | .bM _ _ es=>by simp only[ai.aR,lP h]
 | .cz _=>rfl
 | .dL _ _=>rfl
 | .b8 _ _=>by simp only[ai.aR,lP h]
 | .it _ _ _ _=>by simp only[ai.aR,lP h]
theorem abg(os:List (Nat×ai)):cD [] os=os:=by
 simp only[cD];have:(fun q:Nat×ai=>(bo [] q.1,q.2.aR (bo [])))=id:=by
  funext q
  rw[ai.nI (ρ:=bo []) (fun n=>rfl)];rfl
 rw[this,List.map_id]
theorem v7(a b:List (Nat×ai))(n:Nat):aG (a++b) n=match aG a n with
  |some x=>some x
  |none=>aG b n:=by
 induction a with
 |nil=>rfl
 |cons q a ih =>
  obtain ⟨k,v⟩:=q;simp only[zy2,aG];split
  ·rfl
  ·exact ih
theorem dM.none{os os':List (Nat×ai)}(h:dM os os'){n:Nat}(hn:n<1000000):aG os' n=none:=by
 cases hx:aG os' n with
 |none=>rfl
 |some x =>
  have h1:aw os' n=true:=by simp[aw,hx]
  rw[h.same] at h1;exact absurd (h.j5 n h1) (by omega)
theorem bn.slots{ts ts':List (Nat×I)}{os os':List (Nat×ai)}(h1:bK ts ts')(h2:∀ n,aG os n=aG os' n):bn (al ts os) (al ts' os'):=by
 have e:al ts os=al ts os':=by
  simp only[al];congr 1;funext n;exact h2 n
 rw[e];rintro c a w ⟨D,E,hs⟩;refine ⟨D,E,hs.sz,hs.ef,fun t =>?_,hs.c8,hs.cO,hs.cQ,hs.bx,hs.cG,hs.df,hs.eO,hs.cE,hs.fh,hs.fm⟩;rcases xD h1 t with h | h
 ·simp only[al];rw[h];simp[aQ]
 ·have:=hs.dn t;simp only[al] at *;rw[h];exact this
theorem yD{os osk os2 ow:List (Nat×ai)}{ts:List (Nat×I)}(h1:dM os osk)(h2:dM os os2)(how:∀ m,aw ow m=true→m<1000000):al ts (cD [] os2++(ow++osk))=al ts (ow++os2):=by
 simp only[al,abg]
 congr 1
 funext n
 simp only[v7];cases hw:aG ow n with
 |none =>
  simp only;cases h3:aG os2 n with
  |some x=>rfl
  |none =>
   simp only;cases h4:aG osk n with
   |none=>rfl
   |some x =>
    have h5:aw osk n=true:=by simp[aw,h4]
    rw[h1.same,←h2.same] at h5;simp[aw,h3] at h5
 |some x =>
  simp only;rw[h2.none (how n (by simp[aw,hw]))]
theorem eF.gS{os osk ow:List (Nat×ai)}(h1:dM os osk)(how:∀ m,aw ow m=true→m<1000000):eF [] osk (ow++osk):=by
 refine ⟨fun m x hx =>?_,fun m m' _ _ h=>h⟩;have hm:aw osk m=true:=by simp[aw,hx]
 have hg:=h1.j5 m (by rw[←h1.same];exact hm);obtain ⟨k1,k2⟩:=h1.ok m x hx;refine ⟨?_,k1,k2⟩;rw[ai.nI (ρ:=bo []) (fun n=>rfl)];simp only[bo,v7];cases hw:aG ow m with
 |none=>exact hx
 |some y=>have:=how m (by simp[aw,hw]);omega
theorem dj.gS{os osk os2 os0:List (Nat×ai)}{r:I}(h1:dM os osk)(h2:dM os os2)(hr:r.bw=true):dj false [] osk os0 r os2:=by
 refine ⟨fun m x hx=>⟨(h2.ok m x hx).1,(h2.ok m x hx).2,fun h=>by cases h⟩,fun m m' _ _ h=>h,fun m hm=>by rw[h2.same,←h1.same];exact hm,fun m h3 h4 =>?_,mL _ r hr,fun h=>by cases h⟩;rw[h2.same,←h1.same,h4] at h3;cases h3
theorem ba.Gb{P:Program}{Y:Value→List I→List (Nat×ai)→cd→Prop}{K:ab→Prop}{v:Value}{vs:List I}{dst:Option Nat}{rest:List aC}{ts:List (Nat×I)}{os osk ow:List (Nat×ai)}{In Ix:List (Nat×ai)→Prop}
  (hY:Y v vs osk (fun r os2=>(r=.bool true∧In os2)∨(r=.bool false∧Ix os2))) (hk:dM os osk) (hi:∀ os',In os'→dM os os') (hx:∀ os',Ix os'→dM os os') (hcl:I.b7 vs=true) (how:∀ m,aw ow m=true→m<1000000)
  (h1:∀ os2,In os2→ba P Y false K (aA rest ((al ts (ow++os2)).aP dst (.bool true)))) (h2:∀ os2,Ix os2→ba P Y false K (aA rest ((al ts (ow++os2)).aP dst (.bool false)))) :
  ba P Y false K (.lr v vs dst rest (al ts (ow++osk))):=by
 refine .uj osk vs _ rfl hY (eF.gS hk how) (uL vs hcl) ?_ ?_
 ·rintro r os' (⟨rfl,h⟩ | ⟨rfl,h⟩)
  ·exact dj.gS hk (hi _ h) rfl
  ·exact dj.gS hk (hx _ h) rfl
 ·rintro r os' (⟨rfl,h⟩ | ⟨rfl,h⟩)
  ·rw[yD hk (hi _ h) how];exact h1 os' h
  ·rw[yD hk (hx _ h) how];exact h2 os' h
theorem Ak(A:ab)(d:Option Nat)(args:List I)(rest:List aC)(v:Value):pU A d args rest (.raw v)=.lr v args d rest A:=rfl
end Go.Abs
namespace Go.Proofs.YtoffnnjbplgnaaaGreatDoor
open Go Go.Abs
open Go.Abs.Enc (enc)
structure Item where
 aT:Int
 no:Int
 deriving DecidableEq,Inhabited
instance:Enc Item where
 enc x:=.agg [.int .i64 x.aT,.int .i64 x.no]
 sz:=2
 aL:=.ej [.one,.one]
 gn:=true
 done _:=rfl
 size _:=by simp[I.size,I.sizes]
 iD _:=by simp[I.aL,I.cI]
 agg _:=rfl
structure ah where
 aT:Int
 no:Int
 kind:Int
 ee:Int
 known:Int
 eQ:Int
 fb:Int
 text:List UInt8
 deriving DecidableEq,Inhabited
def ah.aV(r:ah):Item:=⟨r.aT,r.no⟩
def ah.fw(r:ah):Item:=⟨r.eQ,r.fb⟩
instance:Enc ah where
 enc r:=.agg [enc r.aV,.int .i64 r.kind,.int .i64 r.ee,.int .i64 r.known,enc r.fw,enc (aD.of r.text)]
 sz:=8
 aL:=.ej [.ej [.one,.one],.one,.one,.one,.ej [.one,.one],.one]
 gn:=true
 done e:=by simp only[I.done,I.fV,Enc.done,Bool.and_self]
 size e:=by simp only[I.size,I.sizes,lx];rfl
 iD e:=by simp only[I.aL,I.cI,eh];rfl
 agg _:=rfl
structure dc where
 bX:List UInt8
 eE:List UInt8
 deriving DecidableEq,Inhabited
instance:Enc dc where
 enc r:=.agg [enc (aD.of r.bX),enc (aD.of r.eE)]
 sz:=2
 aL:=.ej [.one,.one]
 gn:=true
 done e:=by simp only[I.done,I.fV,Enc.done,Bool.and_self]
 size e:=by simp only[I.size,I.sizes,lx];rfl
 iD e:=by simp only[I.aL,I.cI,eh];rfl
 agg _:=rfl
structure db where
 dk:dc
 copy:dc
 deriving DecidableEq,Inhabited
instance:Enc db where
 enc r:=.agg [enc r.dk,enc r.copy]
 sz:=4
 aL:=.ej [.ej [.one,.one],.ej [.one,.one]]
 gn:=true
 done e:=by simp only[I.done,I.fV,Enc.done,Bool.and_self]
 size e:=by simp only[I.size,I.sizes,lx];rfl
 iD e:=by simp only[I.aL,I.cI,eh];rfl
 agg _:=rfl
structure dF where
 l:List ah
 deriving DecidableEq,Inhabited
instance:Enc dF where
 enc b:=.agg [enc b.l]
 sz:=1
 aL:=.ej [.one]
 gn:=true
 done e:=by simp only[I.done,I.fV,Enc.done,Bool.and_self]
 size e:=by simp only[I.size,I.sizes,lx];rfl
 iD e:=by simp only[I.aL,I.cI,eh];rfl
 agg _:=rfl
theorem qI{fs:List I}{f off:Nat}{v:I}(h1:f<fs.length)(h:I.sizes (fs.take f)=off):fE fs f off v=some v:=by simp[fE,h,h1]
theorem NQ:Enc.sz Item=2:=rfl
theorem NT:Enc.sz aD=1:=rfl
theorem NS:Enc.sz dc=2:=rfl
theorem CW(x:I)(fs:List I)(v:I):fE (x::fs) 0 0 v=some v:=qI (by simp) (by simp[I.sizes])
theorem CT(a b:Item)(n1 n2 n3:Int)(s:aD)(v:I) :
  (fE [enc a,.int .i64 n1,.int .i64 n2,.int .i64 n3,enc b,enc s] 1 2 v=some v)∧(fE [enc a,.int .i64 n1,.int .i64 n2,.int .i64 n3,enc b,enc s] 2 3 v=some v)∧(fE [enc a,.int .i64 n1,.int .i64 n2,.int .i64 n3,enc b,enc s] 3 4 v=some v) ∧
  (fE [enc a,.int .i64 n1,.int .i64 n2,.int .i64 n3,enc b,enc s] 4 5 v=some v)∧(fE [enc a,.int .i64 n1,.int .i64 n2,.int .i64 n3,enc b,enc s] 5 7 v=some v):=by
 refine ⟨?_,?_,?_,?_,?_⟩ <;>refine qI (t7 rfl) ?_ <;>simp[I.sizes,I.size,lx,NQ]
theorem CS(n1 n2:Int)(v:I):fE [.int .i64 n1,.int .i64 n2] 1 1 v=some v:=qI (t7 rfl) (by simp[I.sizes,I.size])
theorem CV(a b:aD)(v:I):fE [enc a,enc b] 1 1 v=some v:=qI (t7 rfl) (by simp[I.sizes,lx,NT])
theorem CU(a b:dc)(v:I):fE [enc a,enc b] 1 2 v=some v:=qI (t7 rfl) (by simp[I.sizes,lx,NS])
theorem F3 :
  (∀ x:Item,(enc x).c7=some [.int .i64 x.aT,.int .i64 x.no])∧(∀ r:ah,(enc r).c7=some [enc r.aV,.int .i64 r.kind,.int .i64 r.ee,.int .i64 r.known,enc r.fw,enc (aD.of r.text)])∧(∀ r:dc,(enc r).c7=some [enc (aD.of r.bX),enc (aD.of r.eE)]) ∧
  (∀ r:db,(enc r).c7=some [enc r.dk,enc r.copy])∧(∀ b:dF,(enc b).c7=some [enc b.l])∧(type_of% @CW)∧(type_of% @CT)∧(type_of% @CS)∧(type_of% @CV)∧(type_of% @CU) ∧
  (∀ x:Item,bT (some 2) (enc x)=true)∧(∀ x:ah,bT (some 8) (enc x)=true)∧(∀ x:dc,bT (some 2) (enc x)=true)∧(∀ x:db,bT (some 4) (enc x)=true)∧(∀ x:dF,bT (some 1) (enc x)=true)∧(∀ x:aD,bT none (enc x)=true)∧(∀ x:List ah,bT none (enc x)=true) ∧
  (∀ r:ah,r.aV.aT=r.aT)∧(∀ r:ah,r.aV.no=r.no)∧(∀ r:ah,r.fw.aT=r.eQ)∧(∀ r:ah,r.fw.no=r.fb) ∧
  (∀ (fs:List I) x,(x::fs)[0]?=some x)∧(∀ (fs:List I) x n,(x::fs)[n+1]?=fs[n]?)∧(∀ (fs:List I) x,(x::fs)[1]?=fs[0]?)∧(∀ (fs:List I) x,(x::fs)[2]?=fs[1]?)∧(∀ (fs:List I) x,(x::fs)[3]?=fs[2]?)∧(∀ (fs:List I) x,(x::fs)[4]?=fs[3]?)∧(∀ (fs:List I) x,(x::fs)[5]?=fs[4]?) :=
 ⟨fun _=>rfl,fun _=>rfl,fun _=>rfl,fun _=>rfl,fun _=>rfl,CW,CT,CS,CV,CU,fun _=>by rw[ik];rfl,fun _=>by rw[ik];rfl,fun _=>by rw[ik];rfl,fun _=>by rw[ik];rfl,fun _=>by rw[ik];rfl,fun _=>rfl,fun _=>rfl,
  fun _=>rfl,fun _=>rfl,fun _=>rfl,fun _=>rfl,fun _ _=>rfl,fun _ _ _=>rfl,fun _ _=>rfl,fun _ _=>rfl,fun _ _=>rfl,fun _ _=>rfl,fun _ _=>rfl⟩
theorem ly(x y:Item):bV (.aS [.i .i64,.i .i64]) (enc x) (enc y)=some (decide (x=y)):=by
 show bV (.aS [.i .i64,.i .i64]) (.agg [.int .i64 x.aT,.int .i64 x.no]) (.agg [.int .i64 y.aT,.int .i64 y.no])=_
 have:x=y↔x.aT=y.aT∧x.no=y.no:=by cases x;cases y;simp
 simp[bV,gB,ib,this];rfl
theorem AR(x y:aD):bV .s (enc x) (enc y)=some (decide (x=y)):=by
 show bV .s (.ay x.b) (.ay y.b)=_
 simp only[bV];exact congrArg some (xC _ _)
theorem AP(x y:ah):bV (.aS [.aS [.i .i64,.i .i64],.i .i64,.i .i64,.i .i64,.aS [.i .i64,.i .i64],.s]) (enc x) (enc y)=some (decide (x=y)):=by
 show bV (.aS [.aS [.i .i64,.i .i64],.i .i64,.i .i64,.i .i64,.aS [.i .i64,.i .i64],.s]) (.agg [enc x.aV,.int .i64 x.kind,.int .i64 x.ee,.int .i64 x.known,enc x.fw,enc (aD.of x.text)]) (.agg [enc y.aV,.int .i64 y.kind,.int .i64 y.ee,.int .i64 y.known,enc y.fw,enc (aD.of y.text)])=_
 have:x=y↔x.aV=y.aV∧x.kind=y.kind∧x.ee=y.ee∧x.known=y.known∧x.fw=y.fw∧x.text=y.text:=by cases x;cases y;simp[ah.aV,ah.fw,and_assoc]
 rw[bV];simp only[gB,ly,AR,aD.tn];simp[bV,ib,this];rfl
theorem vm(x y:dc):bV (.aS [.s,.s]) (enc x) (enc y)=some (decide (x=y)):=by
 show bV (.aS [.s,.s]) (.agg [enc (aD.of x.bX),enc (aD.of x.eE)]) (.agg [enc (aD.of y.bX),enc (aD.of y.eE)])=_
 have:x=y↔x.bX=y.bX∧x.eE=y.eE:=by cases x;cases y;simp
 rw[bV];simp only[gB,AR,aD.tn];simp[ib,this]
theorem AQ(x y:db):bV (.aS [.aS [.s,.s],.aS [.s,.s]]) (enc x) (enc y)=some (decide (x=y)):=by
 show bV (.aS [.aS [.s,.s],.aS [.s,.s]]) (.agg [enc x.dk,enc x.copy]) (.agg [enc y.dk,enc y.copy])=_
 have:x=y↔x.dk=y.dk∧x.copy=y.copy:=by cases x;cases y;simp
 rw[bV];simp only[gB,vm];simp[ib,this]
theorem Di:(∀ r:ah,(enc r).at [0,0]=some (.int .i64 r.aT))∧(∀ r:ah,(enc r).at [0,1]=some (.int .i64 r.no))∧(∀ r:ah,(enc r).at [4,0]=some (.int .i64 r.eQ))∧(∀ r:ah,(enc r).at [4,1]=some (.int .i64 r.fb))∧(∀ zs,fG zs []=some zs) ∧
  (∀ (a b:Nat) (l:List Nat),[a]++(b::l)=a::b::l)∧(∀ (a b c:Nat) (l:List Nat),[a,b]++(c::l)=a::b::c::l) :=
 ⟨fun _=>rfl,fun _=>rfl,fun _=>rfl,fun _=>rfl,fun _=>rfl,fun _ _ _=>rfl,fun _ _ _ _=>rfl⟩
theorem ak:(type_of% @Di)∧(type_of% @F3)∧(∀ {α:Type} [Enc α] (aE:Bool) (A:ab) (x:α),bf aE A (enc x)=some (enc x))∧(∀ {α:Type} [Enc α] (x:α),(enc x).cn=true)∧(type_of% @ly)∧(type_of% @AP)∧(type_of% @vm)∧(type_of% @AQ)∧(type_of% @ov)∧(type_of% @jw)∧(type_of% @aU) :=
 ⟨Di,F3,@jd,@eW,ly,AP,vm,AQ,ov,jw,aU⟩
theorem eB{i n:Nat}(h:i<n):decide ((i:Int)<(n:Int))=true:=by simp;omega
theorem eX{i n:Nat}(h:¬ i<n):decide ((i:Int)<(n:Int))=false:=by simp;omega
theorem dU{i:Nat}(h:i<9223372036854775807):IntKind.i64.wrap ((i:Int)+1)=((i+1:Nat):Int):=by rw[dE _ (by omega) (by omega)];rfl
def dP(lo hi n:Int):Bool:=decide (lo≤n)&&decide (n≤hi)
theorem mT(n lo hi:Int):aK Tryz.prog 128 [enc n,enc lo,enc hi] (enc (dP lo hi n)):=by
 refine aK.bJ Tryz.func128 IG J7 LA (t7 rfl) (fun hwf W0 bC E1 =>?_);simp only[yZ,DF,bA,zz3,Nat.reduceAdd];have R:=ak
 repeat' ((first |(with_reducible refine .guard (fun hb =>?_) (fun hb =>?_) <;>try simp only[hb])|refine U.au (by decide +kernel) rfl fun K hK =>?_|(refine .aq [0,1,2,6] hK ?_;clear hK K)|(with_reducible refine .done (hK _ ?_);clear hK K)|refine U.of rfl ?_|(with_reducible refine aj.ar (fun h =>?_) (fun h =>?_) <;>try simp only[h])) <;>try simp only[av,R,simprocAttr])
 all_goals clear R
 all_goals (simp at *;simp_all[dP])
 all_goals omega
theorem mc(n lo hi:Int):aK Tryz.prog 82 [enc n,enc lo,enc hi] (enc (dP lo hi n)):=by
 refine aK.bJ Tryz.func82 JB KX Ms (t7 rfl) (fun hwf W0 bC E1 =>?_);simp only[zP,EB,bA,zz3,Nat.reduceAdd];have R:=ak
 repeat' ((first |(with_reducible refine .guard (fun hb =>?_) (fun hb =>?_) <;>try simp only[hb])|refine U.au (by decide +kernel) rfl fun K hK =>?_|(refine .aq [0,1,2,6] hK ?_;clear hK K)|(with_reducible refine .done (hK _ ?_);clear hK K)|refine U.of rfl ?_|(with_reducible refine aj.ar (fun h =>?_) (fun h =>?_) <;>try simp only[h])) <;>try simp only[av,R,simprocAttr])
 all_goals clear R
 all_goals (simp at *;simp_all[dP])
 all_goals omega
theorem uv(n:Int):aK Tryz.prog 105 [enc n] (enc (dP 0 100000 n)):=by
 refine aK.bJ Tryz.func105 Iy J1 Lt (t7 rfl) (fun hwf W0 bC E1 =>?_);simp only[yT,Dw,bA];have R:=ak
 repeat' ((first |refine U.au (by decide +kernel) rfl fun K hK =>?_|refine .flat _ (mT n 0 100000) rfl ?_|(refine .aq [0,2] hK ?_;clear hK K)|(with_reducible refine .done (hK _ ?_);clear hK K)|refine U.of rfl ?_|(with_reducible refine aj.ar (fun h =>?_) (fun h =>?_) <;>try simp only[h])) <;>try simp only[av,R,simprocAttr])
 all_goals clear R
theorem yd(n:Int):aK Tryz.prog 79 [enc n] (enc (dP 0 1000002 n)):=by
 refine aK.bJ Tryz.func79 Jy KU Mp (t7 rfl) (fun hwf W0 bC E1 =>?_);simp only[zN,Ey,bA];have R:=ak
 repeat' ((first |refine U.au (by decide +kernel) rfl fun K hK =>?_|refine .flat _ (mT n 0 1000002) rfl ?_|(refine .aq [0,2] hK ?_;clear hK K)|(with_reducible refine .done (hK _ ?_);clear hK K)|refine U.of rfl ?_|(with_reducible refine aj.ar (fun h =>?_) (fun h =>?_) <;>try simp only[h])) <;>try simp only[av,R,simprocAttr])
 all_goals clear R
def iQ(x:Item):Bool:=dP 0 5 x.aT&&dP 0 9999 x.no
theorem xP(x:Item):aK Tryz.prog 129 [enc x] (enc (iQ x)):=by
 refine aK.bJ Tryz.func129 IH J8 LB (t7 rfl) (fun hwf W0 bC E1 =>?_);simp only[y5,DG,bA];cases q:dP 0 5 x.aT
 ·simp only[iQ,q,zw6];have R:=y6 @q ak
  repeat' ((first |(with_reducible refine .guard (fun hb =>?_) (fun hb =>?_) <;>try simp only[hb])|refine U.au (by decide +kernel) rfl fun K hK =>?_|refine .flat _ (mT x.aT 0 5) rfl ?_|refine .flat _ (mT x.no 0 9999) rfl ?_|(refine .aq [0,1,2] hK ?_;clear hK K)|(with_reducible refine .done (hK _ ?_);clear hK K)|refine U.of rfl ?_|(with_reducible refine aj.ar (fun h =>?_) (fun h =>?_) <;>try simp only[h])) <;>try simp only[av,R,simprocAttr])
  all_goals clear R
 ·simp only[iQ,q,Bool.true_and];have R:=y6 @q ak
  repeat' ((first |(with_reducible refine .guard (fun hb =>?_) (fun hb =>?_) <;>try simp only[hb])|refine U.au (by decide +kernel) rfl fun K hK =>?_|refine .flat _ (mT x.aT 0 5) rfl ?_|refine .flat _ (mT x.no 0 9999) rfl ?_|(refine .aq [0,1,2] hK ?_;clear hK K)|(with_reducible refine .done (hK _ ?_);clear hK K)|refine U.of rfl ?_|(with_reducible refine aj.ar (fun h =>?_) (fun h =>?_) <;>try simp only[h])) <;>try simp only[av,R,simprocAttr])
  all_goals clear R
theorem yf(x:Item):aK Tryz.prog 85 [enc x] (enc (iQ x)):=by
 refine aK.bJ Tryz.func85 JD KZ Mu (t7 rfl) (fun hwf W0 bC E1 =>?_);simp only[c85,ED,bA];cases q:dP 0 5 x.aT
 ·simp only[iQ,q,zw6];have R:=y6 @q ak
  repeat' ((first |(with_reducible refine .guard (fun hb =>?_) (fun hb =>?_) <;>try simp only[hb])|refine U.au (by decide +kernel) rfl fun K hK =>?_|refine .flat _ (mc x.aT 0 5) rfl ?_|refine .flat _ (mc x.no 0 9999) rfl ?_|(refine .aq [0,1,2] hK ?_;clear hK K)|(with_reducible refine .done (hK _ ?_);clear hK K)|refine U.of rfl ?_|(with_reducible refine aj.ar (fun h =>?_) (fun h =>?_) <;>try simp only[h])) <;>try simp only[av,R,simprocAttr])
  all_goals clear R
 ·simp only[iQ,q,Bool.true_and];have R:=y6 @q ak
  repeat' ((first |(with_reducible refine .guard (fun hb =>?_) (fun hb =>?_) <;>try simp only[hb])|refine U.au (by decide +kernel) rfl fun K hK =>?_|refine .flat _ (mc x.aT 0 5) rfl ?_|refine .flat _ (mc x.no 0 9999) rfl ?_|(refine .aq [0,1,2] hK ?_;clear hK K)|(with_reducible refine .done (hK _ ?_);clear hK K)|refine U.of rfl ?_|(with_reducible refine aj.ar (fun h =>?_) (fun h =>?_) <;>try simp only[h])) <;>try simp only[av,R,simprocAttr])
  all_goals clear R
end Go.Proofs.YtoffnnjbplgnaaaGreatDoor
namespace Go.Proofs.YtoffnnjbplgnaaaGreatDoor
open Go Go.Abs Go.Shelf
open Go.Abs.Enc (enc)
def Y0:Go.Shelf.Ren:=⟨fun | 104=>125 | 211=>153 | 207=>169 | n=>n,fun | 9=>9 | 4=>4 | 24=>42 | 3=>3 | n=>n,fun | n=>n⟩
theorem YZ:Go.Proofs.Lays.n104 Tryz.prog Y0 := {
 mixed:=by kernel_rfl
 f104:=Tryz.func125.trans (congrArg some (by kernel_rfl))
 f207:=Tryz.func169.trans (congrArg some (by kernel_rfl))
 f211:=Tryz.func153.trans (congrArg some (by kernel_rfl))
 t3:=Tryz.underlying3
 a3:=Tryz.isAgg3
 z3:=Tryz.sizeOf3
 v3:=Tryz.zeroValue3
 t4:=Tryz.underlying4
 a4:=Tryz.isAgg4
 z4:=Tryz.sizeOf4
 v4:=Tryz.zeroValue4
 t9:=Tryz.underlying9
 a9:=Tryz.isAgg9
 z9:=Tryz.sizeOf9
 v9:=Tryz.zeroValue9
 t24:=Tryz.underlying42
 a24:=Tryz.isAgg42
 z24:=Tryz.sizeOf42
 v24:=Tryz.zeroValue42 }
def Cm:Go.Shelf.Ren:=⟨fun | 137=>123 | 217=>152 | 266=>168 | n=>n,fun | 9=>9 | 5=>5 | 3=>3 | n=>n,fun | n=>n⟩
theorem Cl:Go.Proofs.Lays.n137 Tryz.prog Cm := {
 mixed:=by kernel_rfl
 f137:=Tryz.func123.trans (congrArg some (by kernel_rfl))
 f217:=Tryz.func152.trans (congrArg some (by kernel_rfl))
 f266:=Tryz.func168.trans (congrArg some (by kernel_rfl))
 t3:=Tryz.underlying3
 a3:=Tryz.isAgg3
 z3:=Tryz.sizeOf3
 v3:=Tryz.zeroValue3
 t5:=Tryz.underlying5
 a5:=Tryz.isAgg5
 z5:=Tryz.sizeOf5
 v5:=Tryz.zeroValue5
 t9:=Tryz.underlying9
 a9:=Tryz.isAgg9
 z9:=Tryz.sizeOf9
 v9:=Tryz.zeroValue9 }
def YV:Go.Shelf.Ren:=⟨fun | 172=>155 | 244=>171 | 245=>172 | 247=>189 | 279=>190 | 280=>191 | 281=>192 | 282=>193 | 287=>207 | 316=>127 | 171=>132 | 205=>208 | 321=>215 | 322=>216 | 243=>158 | 246=>174 | 283=>195 | 284=>196 | 285=>197 | 286=>198 | 129=>185 | 317=>209 | 318=>210 | 319=>211 | 320=>212 | 337=>217 | 338=>218 | n=>n,fun | 9=>9 | 3=>3 | 75=>199 | 76=>200 | 4=>4 | 5=>5 | 167=>231 | 37=>45 | 0=>0 | 85=>232 | 2=>2 | 168=>234 | 53=>227 | 175=>250 | 46=>208 | 210=>253 | 127=>202 | 145=>266 | 143=>264 | 21=>21 | 171=>239 | 173=>241 | 212=>256 | 51=>225 | 20=>20 | 213=>257 | 232=>267 | 233=>268 | 80=>206 | n=>n,fun | 15=>1 | 16=>2 | 17=>3 | 18=>4 | 19=>5 | n=>n⟩
theorem YU:Go.Proofs.LaysC.n172 Tryz.prog YV := {
 mixed:=by kernel_rfl
 f129:=Tryz.func185.trans (congrArg some (by kernel_rfl))
 f171:=Tryz.func132.trans (congrArg some (by kernel_rfl))
 f172:=Tryz.func155.trans (congrArg some (by kernel_rfl))
 f205:=Tryz.func208.trans (congrArg some (by kernel_rfl))
 f243:=Tryz.func158.trans (congrArg some (by kernel_rfl))
 f244:=Tryz.func171.trans (congrArg some (by kernel_rfl))
 f245:=Tryz.func172.trans (congrArg some (by kernel_rfl))
 f246:=Tryz.func174.trans (congrArg some (by kernel_rfl))
 f247:=Tryz.func189.trans (congrArg some (by kernel_rfl))
 f279:=Tryz.func190.trans (congrArg some (by kernel_rfl))
 f280:=Tryz.func191.trans (congrArg some (by kernel_rfl))
 f281:=Tryz.func192.trans (congrArg some (by kernel_rfl))
 f282:=Tryz.func193.trans (congrArg some (by kernel_rfl))
 f283:=Tryz.func195.trans (congrArg some (by kernel_rfl))
 f284:=Tryz.func196.trans (congrArg some (by kernel_rfl))
 f285:=Tryz.func197.trans (congrArg some (by kernel_rfl))
 f286:=Tryz.func198.trans (congrArg some (by kernel_rfl))
 f287:=Tryz.func207.trans (congrArg some (by kernel_rfl))
 f316:=Tryz.func127.trans (congrArg some (by kernel_rfl))
 f317:=Tryz.func209.trans (congrArg some (by kernel_rfl))
 f318:=Tryz.func210.trans (congrArg some (by kernel_rfl))
 f319:=Tryz.func211.trans (congrArg some (by kernel_rfl))
 f320:=Tryz.func212.trans (congrArg some (by kernel_rfl))
 f321:=Tryz.func215.trans (congrArg some (by kernel_rfl))
 f322:=Tryz.func216.trans (congrArg some (by kernel_rfl))
 f337:=Tryz.func217.trans (congrArg some (by kernel_rfl))
 f338:=Tryz.func218.trans (congrArg some (by kernel_rfl))
 t0:=Tryz.underlying0
 a0:=Tryz.isAgg0
 z0:=Tryz.sizeOf0
 v0:=Tryz.zeroValue0
 t2:=Tryz.underlying2
 a2:=Tryz.isAgg2
 z2:=Tryz.sizeOf2
 v2:=Tryz.zeroValue2
 t3:=Tryz.underlying3
 a3:=Tryz.isAgg3
 z3:=Tryz.sizeOf3
 v3:=Tryz.zeroValue3
 t4:=Tryz.underlying4
 a4:=Tryz.isAgg4
 z4:=Tryz.sizeOf4
 v4:=Tryz.zeroValue4
 t5:=Tryz.underlying5
 a5:=Tryz.isAgg5
 z5:=Tryz.sizeOf5
 v5:=Tryz.zeroValue5
 t9:=Tryz.underlying9
 a9:=Tryz.isAgg9
 z9:=Tryz.sizeOf9
 v9:=Tryz.zeroValue9
 t20:=Tryz.underlying20
 a20:=Tryz.isAgg20
 z20:=Tryz.sizeOf20
 v20:=Tryz.zeroValue20
 t21:=Tryz.underlying21
 a21:=Tryz.isAgg21
 z21:=Tryz.sizeOf21
 v21:=Tryz.zeroValue21
 t37:=Tryz.underlying45
 a37:=Tryz.isAgg45
 z37:=Tryz.sizeOf45
 v37:=Tryz.zeroValue45
 t46:=Tryz.underlying208
 a46:=Tryz.isAgg208
 z46:=Tryz.sizeOf208
 v46:=Tryz.zeroValue208
 t51:=Tryz.underlying225
 a51:=Tryz.isAgg225
 z51:=Tryz.sizeOf225
 v51:=Tryz.zeroValue225
 t53:=Tryz.underlying227
 a53:=Tryz.isAgg227
 z53:=Tryz.sizeOf227
 v53:=Tryz.zeroValue227
 t75:=Tryz.underlying199
 a75:=Tryz.isAgg199
 z75:=Tryz.sizeOf199
 v75:=Tryz.zeroValue199
 t76:=Tryz.underlying200
 a76:=Tryz.isAgg200
 z76:=Tryz.sizeOf200
 v76:=Tryz.zeroValue200
 t85:=Tryz.underlying232
 a85:=Tryz.isAgg232
 z85:=Tryz.sizeOf232
 v85:=Tryz.zeroValue232
 t127:=Tryz.underlying202
 a127:=Tryz.isAgg202
 z127:=Tryz.sizeOf202
 v127:=Tryz.zeroValue202
 t143:=Tryz.underlying264
 a143:=Tryz.isAgg264
 z143:=Tryz.sizeOf264
 v143:=Tryz.zeroValue264
 t145:=Tryz.underlying266
 a145:=Tryz.isAgg266
 z145:=Tryz.sizeOf266
 v145:=Tryz.zeroValue266
 t167:=Tryz.underlying231
 a167:=Tryz.isAgg231
 z167:=Tryz.sizeOf231
 v167:=Tryz.zeroValue231
 t168:=Tryz.underlying234
 a168:=Tryz.isAgg234
 z168:=Tryz.sizeOf234
 v168:=Tryz.zeroValue234
 t171:=Tryz.underlying239
 a171:=Tryz.isAgg239
 z171:=Tryz.sizeOf239
 v171:=Tryz.zeroValue239
 t173:=Tryz.underlying241
 a173:=Tryz.isAgg241
 z173:=Tryz.sizeOf241
 v173:=Tryz.zeroValue241
 t175:=Tryz.underlying250
 a175:=Tryz.isAgg250
 z175:=Tryz.sizeOf250
 v175:=Tryz.zeroValue250
 t210:=Tryz.underlying253
 a210:=Tryz.isAgg253
 z210:=Tryz.sizeOf253
 v210:=Tryz.zeroValue253
 t212:=Tryz.underlying256
 a212:=Tryz.isAgg256
 z212:=Tryz.sizeOf256
 v212:=Tryz.zeroValue256
 t213:=Tryz.underlying257
 a213:=Tryz.isAgg257
 z213:=Tryz.sizeOf257
 t232:=Tryz.underlying267
 a232:=Tryz.isAgg267
 z232:=Tryz.sizeOf267
 v232:=Tryz.zeroValue267
 t233:=Tryz.underlying268
 a233:=Tryz.isAgg268
 z233:=Tryz.sizeOf268
 v233:=Tryz.zeroValue268
 g15:=by kernel_rfl
 g16:=by kernel_rfl
 g17:=by kernel_rfl
 g18:=by kernel_rfl
 g19:=by kernel_rfl
 t80:=Tryz.underlying206
 a80:=Tryz.isAgg206
 z80:=Tryz.sizeOf206
 v80:=Tryz.zeroValue206
 i0:=by kernel_rfl
 i2:=by kernel_rfl
 i3:=by kernel_rfl
 i4:=by kernel_rfl
 i5:=by kernel_rfl
 i9:=by kernel_rfl
 i20:=by kernel_rfl
 i21:=by kernel_rfl
 i37:=by kernel_rfl
 i46:=by kernel_rfl
 i51:=by kernel_rfl
 i53:=by kernel_rfl
 i75:=by kernel_rfl
 i76:=by kernel_rfl
 i80:=by kernel_rfl
 i85:=by kernel_rfl
 i127:=by kernel_rfl
 i143:=by kernel_rfl
 i145:=by kernel_rfl
 i167:=by kernel_rfl
 i168:=by kernel_rfl
 i171:=by kernel_rfl
 i173:=by kernel_rfl
 i175:=by kernel_rfl
 i210:=by kernel_rfl
 i212:=by kernel_rfl
 i232:=by kernel_rfl
 i233:=by kernel_rfl
 m15:=by kernel_rfl
 m16:=by kernel_rfl
 m17:=by kernel_rfl
 m18:=by kernel_rfl
 m19:=by kernel_rfl
 c0:=by kernel_rfl
 c2:=by kernel_rfl
 c3:=by kernel_rfl
 c4:=by kernel_rfl
 c5:=by kernel_rfl
 c9:=by kernel_rfl
 c20:=by kernel_rfl
 c21:=by kernel_rfl
 c37:=by kernel_rfl
 c46:=by kernel_rfl
 c51:=by kernel_rfl
 c53:=by kernel_rfl
 c75:=by kernel_rfl
 c76:=by kernel_rfl
 c80:=by kernel_rfl
 c85:=by kernel_rfl
 c127:=by kernel_rfl
 c143:=by kernel_rfl
 c145:=by kernel_rfl
 c167:=by kernel_rfl
 c168:=by kernel_rfl
 c171:=by kernel_rfl
 c173:=by kernel_rfl
 c175:=by kernel_rfl
 c210:=by kernel_rfl
 c212:=by kernel_rfl
 c213:=by kernel_rfl
 c232:=by kernel_rfl
 c233:=by kernel_rfl }
def YW:Go.Shelf.Ren:=⟨fun | 171=>132 | 243=>158 | 246=>174 | 283=>195 | 284=>196 | 285=>197 | 286=>198 | 129=>185 | 317=>209 | 318=>210 | 319=>211 | 320=>212 | 337=>217 | 338=>218 | n=>n,fun | 3=>3 | 9=>9 | 2=>2 | 4=>4 | 171=>239 | 0=>0 | 53=>227 | 37=>45 | 5=>5 | 173=>241 | 212=>256 | 51=>225 | 20=>20 | 213=>257 | 46=>208 | 232=>267 | 233=>268 | n=>n,fun | 17=>3 | 18=>4 | 19=>5 | n=>n⟩
theorem Ck:Go.Proofs.LaysM.n171 Tryz.prog YW := {
 mixed:=by kernel_rfl
 f129:=Tryz.func185.trans (congrArg some (by kernel_rfl))
 f171:=Tryz.func132.trans (congrArg some (by kernel_rfl))
 f243:=Tryz.func158.trans (congrArg some (by kernel_rfl))
 f246:=Tryz.func174.trans (congrArg some (by kernel_rfl))
 f283:=Tryz.func195.trans (congrArg some (by kernel_rfl))
 f284:=Tryz.func196.trans (congrArg some (by kernel_rfl))
 f285:=Tryz.func197.trans (congrArg some (by kernel_rfl))
 f286:=Tryz.func198.trans (congrArg some (by kernel_rfl))
 f317:=Tryz.func209.trans (congrArg some (by kernel_rfl))
 f318:=Tryz.func210.trans (congrArg some (by kernel_rfl))
 f319:=Tryz.func211.trans (congrArg some (by kernel_rfl))
 f320:=Tryz.func212.trans (congrArg some (by kernel_rfl))
 f337:=Tryz.func217.trans (congrArg some (by kernel_rfl))
 f338:=Tryz.func218.trans (congrArg some (by kernel_rfl))
 t0:=Tryz.underlying0
 a0:=Tryz.isAgg0
 z0:=Tryz.sizeOf0
 v0:=Tryz.zeroValue0
 t2:=Tryz.underlying2
 a2:=Tryz.isAgg2
 z2:=Tryz.sizeOf2
 v2:=Tryz.zeroValue2
 t3:=Tryz.underlying3
 a3:=Tryz.isAgg3
 z3:=Tryz.sizeOf3
 v3:=Tryz.zeroValue3
 t4:=Tryz.underlying4
 a4:=Tryz.isAgg4
 z4:=Tryz.sizeOf4
 v4:=Tryz.zeroValue4
 t5:=Tryz.underlying5
 a5:=Tryz.isAgg5
 z5:=Tryz.sizeOf5
 v5:=Tryz.zeroValue5
 t9:=Tryz.underlying9
 a9:=Tryz.isAgg9
 z9:=Tryz.sizeOf9
 v9:=Tryz.zeroValue9
 t20:=Tryz.underlying20
 a20:=Tryz.isAgg20
 z20:=Tryz.sizeOf20
 v20:=Tryz.zeroValue20
 t37:=Tryz.underlying45
 a37:=Tryz.isAgg45
 z37:=Tryz.sizeOf45
 v37:=Tryz.zeroValue45
 t46:=Tryz.underlying208
 a46:=Tryz.isAgg208
 z46:=Tryz.sizeOf208
 v46:=Tryz.zeroValue208
 t51:=Tryz.underlying225
 a51:=Tryz.isAgg225
 z51:=Tryz.sizeOf225
 v51:=Tryz.zeroValue225
 t53:=Tryz.underlying227
 a53:=Tryz.isAgg227
 z53:=Tryz.sizeOf227
 v53:=Tryz.zeroValue227
 t171:=Tryz.underlying239
 a171:=Tryz.isAgg239
 z171:=Tryz.sizeOf239
 v171:=Tryz.zeroValue239
 t173:=Tryz.underlying241
 a173:=Tryz.isAgg241
 z173:=Tryz.sizeOf241
 v173:=Tryz.zeroValue241
 t212:=Tryz.underlying256
 a212:=Tryz.isAgg256
 z212:=Tryz.sizeOf256
 v212:=Tryz.zeroValue256
 t213:=Tryz.underlying257
 a213:=Tryz.isAgg257
 z213:=Tryz.sizeOf257
 t232:=Tryz.underlying267
 a232:=Tryz.isAgg267
 z232:=Tryz.sizeOf267
 v232:=Tryz.zeroValue267
 t233:=Tryz.underlying268
 a233:=Tryz.isAgg268
 z233:=Tryz.sizeOf268
 v233:=Tryz.zeroValue268
 g17:=by kernel_rfl
 g18:=by kernel_rfl
 g19:=by kernel_rfl
 i0:=by kernel_rfl
 i2:=by kernel_rfl
 i3:=by kernel_rfl
 i4:=by kernel_rfl
 i5:=by kernel_rfl
 i9:=by kernel_rfl
 i20:=by kernel_rfl
 i37:=by kernel_rfl
 i46:=by kernel_rfl
 i51:=by kernel_rfl
 i53:=by kernel_rfl
 i171:=by kernel_rfl
 i173:=by kernel_rfl
 i212:=by kernel_rfl
 i232:=by kernel_rfl
 i233:=by kernel_rfl
 m17:=by kernel_rfl
 m18:=by kernel_rfl
 m19:=by kernel_rfl }
def YY:Go.Shelf.Ren:=⟨fun | 316=>127 | n=>n,fun | 9=>9 | 3=>3 | 4=>4 | 37=>45 | 0=>0 | 127=>202 | 5=>5 | n=>n,fun | n=>n⟩
theorem YX:Go.Proofs.LaysM.n316 Tryz.prog YY := {
 mixed:=by kernel_rfl
 f316:=Tryz.func127.trans (congrArg some (by kernel_rfl))
 t0:=Tryz.underlying0
 a0:=Tryz.isAgg0
 z0:=Tryz.sizeOf0
 v0:=Tryz.zeroValue0
 t3:=Tryz.underlying3
 a3:=Tryz.isAgg3
 z3:=Tryz.sizeOf3
 v3:=Tryz.zeroValue3
 t4:=Tryz.underlying4
 a4:=Tryz.isAgg4
 z4:=Tryz.sizeOf4
 v4:=Tryz.zeroValue4
 t9:=Tryz.underlying9
 a9:=Tryz.isAgg9
 z9:=Tryz.sizeOf9
 v9:=Tryz.zeroValue9
 t37:=Tryz.underlying45
 a37:=Tryz.isAgg45
 z37:=Tryz.sizeOf45
 v37:=Tryz.zeroValue45
 t127:=Tryz.underlying202
 a127:=Tryz.isAgg202
 z127:=Tryz.sizeOf202
 v127:=Tryz.zeroValue202
 t5:=Tryz.underlying5
 a5:=Tryz.isAgg5
 z5:=Tryz.sizeOf5
 v5:=Tryz.zeroValue5
 i0:=by kernel_rfl
 i3:=by kernel_rfl
 i4:=by kernel_rfl
 i5:=by kernel_rfl
 i9:=by kernel_rfl
 i37:=by kernel_rfl
 i127:=by kernel_rfl }
theorem Gp(s p:aD):aK Tryz.prog 125 [enc s,enc p] (.tuple [enc (aD.of (Lib.trimSuffix s.l p.l)),enc (Lib.hasSuffix s.l p.l)]):=MI YZ IE s p
theorem Gn(s:aD)(c:UInt8):aK Tryz.prog 123 [enc s,.int .u8 c.toNat] (enc (Lib.indexByte s.l c)):=MJ Cl ID s c
theorem uy(s:aD)(hs:s.l.length≤281474976710656):aK Tryz.prog 155 [enc s] (gM 234 s.l):=MG YU I1 (by kernel_rfl) (by kernel_rfl) rfl s hs
theorem Gu(n:Int):aK Tryz.prog 132 [enc n] (enc (vU n)):=MK Ck IK (g:=3) (by kernel_rfl) n
theorem Gr(s:aD)(hs:s.l.length≤281474976710656):aK Tryz.prog 127 [enc s] (enc s):=MH YX IF s hs
theorem YT:Go.Proofs.Lays.n217 Tryz.prog Cm := { Cl with }
theorem Yz(l:List UInt8)(c:UInt8):-1≤Lib.indexByte l c∧Lib.indexByte l c≤l.length:=by
 refine ⟨Lib.indexByte_ge l c,?_⟩
 induction l with
 |nil=>simp[Lib.indexByte]
 |cons b l ih =>
  unfold Lib.indexByte
  (repeat' split) <;>simp only[zw0] <;>omega
theorem GD(s:aD)(c:UInt8):aK Tryz.prog 152 [enc s,.int .u8 c.toNat] (enc (Lib.indexByte s.l c)):=by
 refine ⟨IZ,fun w D vs hl hD hv =>?_⟩;obtain ⟨rest,rfl,hsz,hv2⟩:=xB hv;simp only[aB] at hv2;obtain ⟨v,rest2,cs,rfl,h1,h2,rfl⟩:=hv2;obtain ⟨rfl,_⟩:=dh (fD h1 h2);have key:=Any.stringslite_IndexByte YT s.b (c.toNat:Int) w;have hcc:((c.toNat:Int)).toNat.toUInt8=c:=by simp
 rw[hcc] at key;refine Calls.mono key ?_;rintro e w' ⟨rfl,rfl⟩;refine ⟨_,D,rfl,⟨[_],by simp[bd,I.isAgg,enc];rfl,?_⟩,Go.RowKit.Below.refl _ w',hD,fun _ _ h _=>h⟩
 show ae _ _ _ (.int .i64 (Lib.indexByte s.l c)) _
 simp only[ae];refine ⟨rfl,?_⟩;have g:=Yz s.l c;rw[aD.size] at hsz;have hmin:IntKind.i64.min=-9223372036854775808:=by decide
 have hmax:IntKind.i64.max=9223372036854775807:=by decide
 unfold maxLen at hsz;rw[hmin,hmax];omega
theorem GJ(s:aD)(c:UInt8):aK Tryz.prog 188 [enc s,enc (aD.of [c])] (enc (Lib.indexByte s.l c)):=by
 refine aK.bJ Tryz.func188 I8 Ku LZ (t7 rfl) (fun hwf W0 bC E1 =>?_);simp only[zq,D6,bA,zz3];have hsi:=Fu (aD.of [c]) (i:=0) (by rw[aD.dC];exact Nat.zero_lt_one);have hl1:mC (enc (aD.of [c]))=some (.int .i64 1):=by rw[qZ];rfl
 have hsi':eC .dS [enc (aD.of [c]),.int .i64 0]=some (.int .u8 (c.toNat:Int)):=hsi;cases q:decide (aD.of [c]=s)
 ·have R:=y6 @hsi' (y6 @hl1 (y6 @q (y6 @bu ak)))
  repeat' ((first |(with_reducible refine .guard (fun hb =>?_) (fun hb =>?_) <;>try simp only[hb])|refine U.au (by decide +kernel) rfl fun K hK =>?_|refine .flat _ (GD s c) rfl ?_|(refine .aq [0,1,4,5,6,7,8,9,10,11,12,13,16,24,31,36,59,64,73,93,107,114,132,139] hK ?_;clear hK K)|(with_reducible refine .done (hK _ ?_);clear hK K)|refine U.of rfl ?_|(with_reducible refine aj.ar (fun h =>?_) (fun h =>?_) <;>try simp only[h])) <;>try simp only[av,R,simprocAttr])
  all_goals clear R
 ·have e:=of_decide_eq_true q;subst e;have R:=y6 @hl1 (y6 @bu ak)
  repeat' ((first |(with_reducible refine .guard (fun hb =>?_) (fun hb =>?_) <;>try simp only[hb])|refine U.au (by decide +kernel) rfl fun K hK =>?_|(refine .aq [0,1,4,5,6,7,8,9,10,11,12,13,16,24,31,36,59,64,73,93,107,114,132,139] hK ?_;clear hK K)|(with_reducible refine .done (hK _ ?_);clear hK K)|refine U.of rfl ?_|(with_reducible refine aj.ar (fun h =>?_) (fun h =>?_) <;>try simp only[h])) <;>try simp only[av,R,eq_self,decide_true,simprocAttr])
  all_goals clear R
  show I.int .i64 0=I.int .i64 (Lib.indexByte [c] c)
  simp[Lib.indexByte]
def dz(c:UInt8):List UInt8→Option (List UInt8×List UInt8)
 | []=>none
 |b::l=>if b=c then some ([],l) else (dz c l).map fun p=>(b::p.1,p.2)
def jY(c:UInt8)(l:List UInt8):List UInt8×List UInt8×Bool:=match dz c l with
 |some p=>(p.1,p.2,true)
 |none=>(l,[],false)
theorem r6(c:UInt8):∀ l:List UInt8,(dz c l=none∧Lib.indexByte l c=-1)∨∃ i:Nat,i<l.length∧Lib.indexByte l c=i∧dz c l=some (l.take i,l.drop (i+1))
 | []=>.inl ⟨rfl,rfl⟩
 |b::l=>by
  by_cases h:b=c
  ·refine .inr ⟨0,by simp,by simp[Lib.indexByte,h],by simp[dz,h]⟩
  ·rcases r6 c l with ⟨h1,h2⟩ | ⟨i,h0,h1,h2⟩
   ·refine .inl ⟨by simp[dz,h,h1],by simp[Lib.indexByte,h,h2]⟩
   ·refine .inr ⟨i+1,by simpa using h0,?_,by simp[dz,h,h2]⟩;simp only[Lib.indexByte,h1];simp[h]
    try omega
theorem GI(s:aD)(c:UInt8):aK Tryz.prog 170 [enc s,enc (aD.of [c])] (.tuple [enc (aD.of (jY c s.l).1),enc (aD.of (jY c s.l).2.1),enc (jY c s.l).2.2]):=by
 refine aK.wf Ag fun hwf0 =>?_;have hlen:s.l.length≤maxLen:=by
  have:=hwf0.1;rw[←aD.size];exact this
 simp only[maxLen] at hlen;refine aK.bJ Tryz.func170 Ag Kr LW (t7 rfl) (fun hwf W0 bC E1 =>?_);simp only[zo,DZ,bA,zz3];clear hwf;have hF:=GJ s c;have hl1:mC (enc (aD.of [c]))=some (.int .i64 1):=by rw[qZ];rfl
 rcases r6 c s.l with ⟨h1,h2⟩ | ⟨i,h0,h1,h2⟩
 ·rw[h2] at hF;simp only[jY,h1];have R:=y6 @hl1 (y6 @bu ak)
  repeat' ((first |refine U.au (by decide +kernel) rfl fun K hK =>?_|refine .flat _ (hF) rfl ?_|(refine .aq [0,1,4,5,6,7,12] hK ?_;clear hK K)|(with_reducible refine .done (hK _ ?_);clear hK K)|refine U.of rfl ?_|(with_reducible refine aj.ar (fun h =>?_) (fun h =>?_) <;>try simp only[h])) <;>try simp only[av,R,decide_false,simprocAttr])
  all_goals clear R
  rw[aD.wv];rfl
 ·rw[h1] at hF;simp only[jY,h2];have g1:=re s (j:=i) (by omega);have g2:=xe s (i:=i+1) (by omega);have hw:=dU (i:=i) (by omega);have hd:decide ((i:Int)≥0)=true:=decide_eq_true (by omega);have R:=y6 @hd (y6 @hl1 (y6 @hw (y6 @g1 (y6 @g2 (y6 @bu ak)))))
  repeat' ((first |refine U.au (by decide +kernel) rfl fun K hK =>?_|refine .flat _ (hF) rfl ?_|(refine .aq [0,1,4,5,6,7,12] hK ?_;clear hK K)|(with_reducible refine .done (hK _ ?_);clear hK K)|refine U.of rfl ?_|(with_reducible refine aj.ar (fun h =>?_) (fun h =>?_) <;>try simp only[h])) <;>try simp only[av,R,decide_true,simprocAttr])
  all_goals clear R
  trace_state
  all_goals rfl
theorem xV(s:aD)(c:UInt8):aK Tryz.prog 154 [enc s,enc (aD.of [c])] (.tuple [enc (aD.of (jY c s.l).1),enc (aD.of (jY c s.l).2.1),enc (jY c s.l).2.2]):=by
 refine aK.bJ Tryz.func154 I0 Kl LP (t7 rfl) (fun hwf W0 bC E1 =>?_);simp only[zi,DT,bA,zz3];have R:=y6 @bu ak
 repeat' ((first |refine U.au (by decide +kernel) rfl fun K hK =>?_|refine .flat _ (GI s c) rfl ?_|(refine .aq [0,1,4,5,6] hK ?_;clear hK K)|(with_reducible refine .done (hK _ ?_);clear hK K)|refine U.of rfl ?_|(with_reducible refine aj.ar (fun h =>?_) (fun h =>?_) <;>try simp only[h])) <;>try simp only[av,R,simprocAttr])
 all_goals clear R
 all_goals rfl
theorem GY(s:aD)(hs:s.l.length≤281474976710656):aK Tryz.prog 74 [enc s] (enc s):=by
 refine aK.bJ Tryz.func74 Jw KS Mn (t7 rfl) (fun hwf W0 bC E1 =>?_);simp only[zM,Ev,bA];have R:=y6 @bu ak
 repeat' ((first |refine U.au (by decide +kernel) rfl fun K hK =>?_|refine .flat _ (Gr s hs) rfl ?_|(refine .aq [0,2] hK ?_;clear hK K)|(with_reducible refine .done (hK _ ?_);clear hK K)|refine U.of rfl ?_|(with_reducible refine aj.ar (fun h =>?_) (fun h =>?_) <;>try simp only[h])) <;>try simp only[av,R,simprocAttr])
 all_goals clear R
 all_goals rfl
end Go.Proofs.YtoffnnjbplgnaaaGreatDoor
namespace Go.Proofs.YtoffnnjbplgnaaaGreatDoor
open Go Go.Abs
open Go.Abs.Enc (enc)
def dD(l:List Int):List UInt8:=l.flatMap fun n=>Lib.itoa n++[32]
def ju(f:List UInt8→Option Int):Nat→List UInt8→Option (List Int×List UInt8)
 |0,s=>some ([],s)
 |k+1,s=>match dz 32 s with
  |none=>none
  |some (w,t)=>match f w with
   |none=>none
   |some n=>(ju f k t).map fun p=>(n::p.1,p.2)
def gD(w:List UInt8):Option Int:=match Lib.atoiAll w with
 | .ok n=>some n
 |_=>none
def eP(r:ah):List Int:=[r.aT,r.no,r.kind,r.ee,r.known,r.eQ,r.fb]
def jJ(n:List Int)(t:List UInt8):ah:=⟨n.getD 1 0,n.getD 2 0,n.getD 3 0,n.getD 4 0,n.getD 5 0,n.getD 6 0,n.getD 7 0,t⟩
def de(r:ah):List UInt8:=dD (eP r)++r.text
def dy(s:Int)(l:List UInt8):Int:=l.foldl (fun s c=>(257*s+c.toNat+1)%1000003) s
theorem pw{s:Int}(h:0≤s∧s<1000003):∀ l,0≤dy s l∧dy s l<1000003:=by
 intro l
 induction l generalizing s with
 |nil=>exact h
 |cons c l ih =>
  rw[dy,List.foldl_cons];exact ih (by omega)
def dR(s:Int)(r:ah):List UInt8:=dD [dy s (de r)]++de r++[10]
section
variable (ok:ah→Bool)
def oE(s:Int)(t:List UInt8)(r:ah):Option (ah×Int):=if ok r=true∧dR s r=t then some (r,dy s (de r)) else none
def ep(s:Int)(t:List UInt8):Option (ah×Int):=if t.getLast?=some 10 then
  (ju gD 8 t.dropLast).bind fun p=>(oE ok s t (jJ p.1 p.2)).bind fun q=>if p.1.headD 0=q.2 then some q else none
 else none
theorem NU{s:Int}{t:List UInt8}{r:ah}{q:ah×Int}(h:oE ok s t r=some q):ok q.1=true∧dR s q.1=t∧q.2=dy s (de q.1):=by
 rw[oE] at h;by_cases c:ok r=true∧dR s r=t
 ·rw[if_pos c] at h;cases h;exact ⟨c.1,c.2,rfl⟩
 ·rw[if_neg c] at h;cases h
theorem aa8{s:Int}{t:List UInt8}{q:ah×Int}(h:ep ok s t=some q):ok q.1=true∧dR s q.1=t∧q.2=dy s (de q.1):=by
 rw[ep] at h;by_cases c:t.getLast?=some 10
 ·rw[if_pos c] at h;cases hp:ju gD 8 t.dropLast with
  |none=>rw[hp] at h;cases h
  |some p =>
   rw[hp,Option.bind_some] at h;cases he:oE ok s t (jJ p.1 p.2) with
   |none=>rw[he] at h;cases h
   |some q' =>
    rw[he,Option.bind_some] at h;by_cases k:p.1.headD 0=q'.2
    ·rw[if_pos k] at h;cases h;exact NU ok he
    ·rw[if_neg k] at h;cases h
 ·rw[if_neg c] at h;cases h
end
def jV:List PanicEntry:=[{ v:=.iface 176 (.agg #[]),recovered:=false }]
theorem nC{Q:Exit→ab→Prop}{x:aF}{A:ab}(h:af A x=.iface 176 (.agg []))(hq:Q (.panic jV) A):mf Tryz.prog Q (.prim .kO [x]) A:=.kO h hq
theorem j7:(∀ T:TypeId,eC (.mF T) [.agg []]=some (.iface T (.agg [])))∧fG [] []=some []:=⟨fun _=>rfl,rfl⟩
theorem wG{A:ab} : wH jV (fun os'=>os'=[]) (.panic jV) A:=⟨rfl,[],[],vP,trivial,rfl,rfl⟩
theorem nf:(I.ay ⟨#[32]⟩)=enc (aD.of [32]):=rfl
theorem pX:(I.ay ⟨#[10]⟩)=enc (aD.of [10]):=rfl
theorem C3{w:List UInt8}{n:Int}(h:gD w=some n):gM 234 w=.tuple [enc n,.cR]:=by
 unfold gD at h;split at h
 ·rename_i m hm;cases h;simp only[gM,hm]
 ·cases h
theorem C2{w:List UInt8}(h:gD w=none):∃ n:Int,gM 234 w=.tuple [enc n,.iface 234 .any]:=by
 unfold gD at h;split at h
 ·cases h
 ·rename_i hm;cases hr:Lib.atoiAll w with
  |ok n=>exact absurd hr (hm n)
  |range=>exact ⟨_,by simp only[gM,hr];rfl⟩
  | _ =>exact ⟨0,by simp only[gM,hr]⟩
theorem r8{c:UInt8}{l:List UInt8}{p:List UInt8×List UInt8}(h:dz c l=some p):p.1.length+p.2.length<l.length:=by
 rcases r6 c l with ⟨h1,_⟩ | ⟨i,h0,_,h2⟩
 ·rw[h1] at h;cases h
 ·rw[h2] at h;cases h;simp only[zy0,zx5];omega
theorem xO(s:aD)(hlen:s.l.length≤281474976710656)(w t:List UInt8)(n:Int)(h1:dz 32 s.l=some (w,t))(h2:gD w=some n):aK Tryz.prog 126 [enc s] (.tuple [enc n,enc (aD.of t)]):=by
 refine aK.bJ Tryz.func126 Ae Am Lz (t7 rfl) (fun hwf W0 bC E1 =>?_);simp only[uY,DE,bA];clear hwf;have hc:=xV s 32;simp only[jY,h1] at hc;have hl:=r8 h1;simp only at hl;have ha:=uy (aD.of w) (by rw[aD.dC];omega);rw[aD.dC,C3 h2] at ha;have R:=y6 @nf (y6 @bu ak)
 repeat' ((first |(with_reducible refine .guard (fun hb =>?_) (fun hb =>?_) <;>try simp only[hb])|refine U.au (by decide +kernel) rfl fun K hK =>?_|refine .flat _ (hc) rfl ?_|refine .lead _ (ha) ?_|(refine .aq [0,2,3,4,5,6,7,8,25] hK ?_;clear hK K)|(with_reducible refine .done (hK _ ?_);clear hK K)|refine U.of rfl ?_|(with_reducible refine aj.ar (fun h =>?_) (fun h =>?_) <;>try simp only[h])) <;>try simp only[av,R,simprocAttr])
 all_goals clear R
 all_goals rfl
theorem Gq(s:aD)(hlen:s.l.length≤281474976710656)(h:∀ w t,dz 32 s.l=some (w,t)→gD w=none):pD Tryz.prog 126 jV [enc s] [] (fun os'=>os'=[]):=by
 refine pD.mk Tryz.func126 Ae Am (t7 rfl) (t7 rfl) (fun m hm=>by simp[aw,aG] at hm) (fun hwf W0 bC E1 =>?_);simp only[uY,bA];clear hwf;have hc:=xV s 32;cases h1:dz 32 s.l with
 |none =>
  simp only[jY,h1] at hc;have ha:=uy (aD.of s.l) (by rw[aD.dC];omega);rw[aD.dC] at ha;cases ho:gD s.l with
  |some n =>
   rw[C3 ho] at ha;have R:=y6 @nf (y6 @j7 (y6 @bu ak))
   repeat' ((first |(with_reducible refine .guard (fun hb =>?_) (fun hb =>?_) <;>try simp only[hb])|(refine U.lO (gs:=su) (gs1:=[_,_]) rfl fun K hK =>?_)|refine U.au (by decide +kernel) rfl fun K hK =>?_|refine .flat _ (hc) rfl ?_|refine .lead _ (ha) ?_|(refine .aq [0,2,3,4,5,6,7,8,25] hK ?_;clear hK K)|(with_reducible refine .done (hK _ ?_);clear hK K)|refine U.of rfl ?_|(with_reducible refine aj.ar (fun h =>?_) (fun h =>?_) <;>try simp only[h])) <;>try simp only[av,R,simprocAttr])
   all_goals clear R
   refine nC ?_ wG;rfl
  |none =>
   obtain ⟨n,hn⟩:=C2 ho;rw[hn] at ha;have R:=y6 @nf (y6 @j7 (y6 @bu ak))
   repeat' ((first |(with_reducible refine .guard (fun hb =>?_) (fun hb =>?_) <;>try simp only[hb])|(refine U.lO (gs:=su) (gs1:=[_,_]) rfl fun K hK =>?_)|refine U.au (by decide +kernel) rfl fun K hK =>?_|refine .flat _ (hc) rfl ?_|refine .lead _ (ha) ?_|(refine .aq [0,2,3,4,5,6,7,8,25] hK ?_;clear hK K)|(with_reducible refine .done (hK _ ?_);clear hK K)|refine U.of rfl ?_|(with_reducible refine aj.ar (fun h =>?_) (fun h =>?_) <;>try simp only[h])) <;>try simp only[av,R,simprocAttr])
   all_goals clear R
   refine nC ?_ wG;rfl
 |some p =>
  obtain ⟨w,t⟩:=p;simp only[jY,h1] at hc;have hl:=r8 h1;simp only at hl;have ha:=uy (aD.of w) (by rw[aD.dC];omega);obtain ⟨n,hn⟩:=C2 (h w t h1);rw[aD.dC,hn] at ha;have R:=y6 @nf (y6 @j7 (y6 @bu ak))
  repeat' ((first |(with_reducible refine .guard (fun hb =>?_) (fun hb =>?_) <;>try simp only[hb])|(refine U.lO (gs:=su) (gs1:=[_,_]) rfl fun K hK =>?_)|refine U.au (by decide +kernel) rfl fun K hK =>?_|refine .flat _ (hc) rfl ?_|refine .lead _ (ha) ?_|(refine .aq [0,2,3,4,5,6,7,8,25] hK ?_;clear hK K)|(with_reducible refine .done (hK _ ?_);clear hK K)|refine U.of rfl ?_|(with_reducible refine aj.ar (fun h =>?_) (fun h =>?_) <;>try simp only[h])) <;>try simp only[av,R,simprocAttr])
  all_goals clear R
  refine nC ?_ wG;rfl
theorem Yx:rI Tryz.prog 124 3:=⟨Ad,fun bs w hb=>by
 obtain ⟨b1,b2,b3,rfl⟩:∃ b1 b2 b3,bs=[b1,b2,b3]:=by
  match bs,hb with
  | [a,b,c],_=>exact ⟨a,b,c,rfl⟩
 refine callsDIn_of_wpSIn Tryz.func124 rfl trivial fun c₀ cs hu =>?_;apply wpSIn_seq;apply wpSIn_region;simp[wpOpsSIn,go_sem,recoverD,hu,Tryz.ntmps124,Exit.thenS];refine wpSIn_of_wpIn rfl (wpIn_block (wpIn_seq (wpIn_region_list ?_)));simp[wpListIn,go_sem];refine wpIn_cond (t:=true) (by simp[Act.eval,Array.replicate]) ?_;simp only[if_true];refine wpIn_region_list ?_;simp[wpListIn,go_sem,Exit.inBlock];cases c₀
 simp_all[bodyPostS,results,Tryz.results124]⟩
theorem wC{P:Program}{o:Oper}{a:Act}{w w':World}{Kw:Act→World→Prop}{Q:Exit→Act→World→Prop}{n:Nat}(h:(execOp a.eval o).run P w=.ok .skip w')(hK:Kw (a.put o.dst undef) w'):o.wpIn Fence.wide n P a w Kw Q:=by
 refine ⟨fun _ _=>trivial,?_⟩
 show o.uponIn _ _ _ _ _ _ ((execOp a.eval o).run P w)
 rw[h,Oper.uponIn_skip];exact hK
theorem aax{P:Program}{o:Oper}{a:Act}{w w':World}{v:Value}{Kw:Act→World→Prop}{Q:Exit→Act→World→Prop}{n:Nat}(h:(execOp a.eval o).run P w=.ok (.value v) w')(hK:Kw (a.put o.dst v) w'):o.wpIn Fence.wide n P a w Kw Q:=by
 refine ⟨fun _ _=>trivial,?_⟩
 show o.uponIn _ _ _ _ _ _ ((execOp a.eval o).run P w)
 rw[h,Oper.uponIn_value];exact hK
theorem xw{P:Program}{o:Oper}{ρ:Operand→Value}{t:TypeId}{x y:Operand}{p v:Value}{w w':World}(ho:o.op=.store t x y)(hx:ρ x=p)(hy:ρ y=v)(h:(Instr.storeAt t p v).run P w=.ok () w'):(execOp ρ o).run P w=.ok .skip w':=by
 simp only[execOp,ho,hx,hy,Sem.run_bind,h];rfl
theorem xA{c:ct}{A:ab}{a:Act}{w:World}{D:aJ}{E:aO}{P:Program}(hs:aM c A a w D E){N b:Nat}{x z:I}{v:Value}{ds:List Value}{t:TypeId}{i:TypeInfo}(hn:A.o N=some (.box x))(az:E N=some (.aE b z.aL))(hsh:x.aL=z.aL)
  (hz:ae w D E z ds) (hv:v.cells.toList=ds) (hi:P.info? t=some i) (hsz:i.size=ds.length) :
  ∃ w',(Instr.storeAt t (ke b) v).run P w=.ok () w'∧aM c (A.aN N (.box z)) a w' D E:=by
 obtain ⟨b',cs,T,k1,k2,k3,k4,k5⟩:=hs.box hn;rw[az] at k1;simp only[v6,bD.aE.injEq] at k1;obtain ⟨rfl,_⟩:=k1;have l1:=ae.length _ _ k4;have l2:=ae.length _ _ hz;have l3:x.size=z.size:=by rw[←I.iC x,←I.iC z,hsh]
 have hcl:cs.size=ds.length:=by rw[←zx6,l1,l2,l3]
 have hrun:=tW P b 0 T ds 0 cs w k3 (by omega) (ae.kL _ _ hz);simp only[Nat.add_zero] at hrun;have e:(cs.toList.take 0++ds++cs.toList.drop (0+ds.length))=ds:=by
  rw[List.take_zero,zy4,zz3,List.drop_eq_nil_of_le (by rw[zx6];omega),List.append_nil]
 rw[e] at hrun;have hs2:=hs.xh (y:=z) (cs':=ds.toArray) hn (hsh▸az) hsh.symm (by simpa using hz);refine ⟨w.setRow b ds.toArray,?_,hs2⟩;have hg:¬ v.cells.size≠i.size:=by rw[hsz,←hv];simp
 have e2:P.cellsOf t=i.size:=by simp[Program.cellsOf,hi]
 simp only[ke,Instr.storeAt,Instr.sureAddr,storeVar,Sem.run_bind,Sem.run_pure,Result.andThen_ok,gG hi,Sem.run_ite,e2,if_neg hg,hv,hrun]
theorem JW:rD Tryz.prog 124 jV [enc (default:ah),.int .i64 0,.bool false]:=⟨Ad,fun c A a w D E Ns bs hP hs az hA=>by
 have hta:∀ W,(Instr.typeAssert (.iface 176 (.agg #[])) 20 176 true).run Tryz.prog W=.ok (.tuple #[.agg #[],.bool true]) W:=fun W=>by
  simp[Instr.typeAssert,run_underlying Tryz.underlying176]
 obtain ⟨N1,N2,N3,rfl⟩:∃ a b c,Ns=[a,b,c]:=by
  match Ns,az.len.2 with
  | [a,b,c],_=>exact ⟨a,b,c,rfl⟩
 obtain ⟨b1,b2,b3,rfl⟩:∃ a b c,bs=[a,b,c]:=by
  match bs,az.len.1 with
  | [a,b,c],_=>exact ⟨a,b,c,rfl⟩
 obtain ⟨hE1,hE2,hE3,_⟩:=az;obtain ⟨⟨x1,hx1,hsh1⟩,⟨x2,hx2,hsh2⟩,⟨x3,hx3,hsh3⟩,_⟩:=hA;refine callsDIn_of_wpSIn Tryz.func124 rfl trivial fun c₀ cs hu =>?_;apply wpSIn_seq;apply wpSIn_region;simp[wpOpsSIn,go_sem,recoverD,hu,Tryz.ntmps124,Exit.thenS,jV];refine wpSIn_of_wpIn rfl (wpIn_block (wpIn_seq (wpIn_region_list ?_)));simp[wpListIn,go_sem];refine wpIn_cond (t:=false) (by simp[Act.eval,Array.replicate]) ?_;simp only[zz4,if_false];refine wpIn_seq (wpIn_region_list ?_);simp[wpListIn,go_sem,hta];refine wpIn_cond (t:=true) (by simp[Act.eval,Array.replicate]) ?_;simp only[if_true];refine wpIn_seq (wpIn_region_list ?_);simp[wpListIn,go_sem];refine wpIn_region_list ?_;have hb:Go.RowKit.Below w.heap.size w (w.alloc (Obj.cells #[] 176)):=jB _ _;have hs1:=hs.grow (D':=D) hb (fun _ _ h=>h) (fun _ _ h _=>h) (fun b o hd=>Nat.lt_of_lt_of_le (hs.cQ b o hd) hb.size);generalize w.alloc (Obj.cells #[] 176)=W1 at *;have nx:∀ {A:ab} {N M b d:Nat} {z y:I},E N=some (.aE b z.aL)→E M=some (.aE d y.aL)→(∃ x,A.o M=some (.box x)∧x.aL=y.aL)→∃ x,(A.aN N (.box z)).o M=some (.box x)∧x.aL=y.aL:=by
  intro A N M b d z y h1 h2 ⟨x,h3,h4⟩;by_cases e:M=N
  ·subst e;rw[h1] at h2;simp only[v6,bD.aE.injEq] at h2;exact ⟨z,by simp[ab.aN],h2.2⟩
  ·exact ⟨x,by simp[ab.aN,e,h3],h4⟩
 obtain ⟨i50,hi50,hz50⟩:∃ i,Tryz.prog.info? 50=some i∧i.size=8:=by
  have h:(Tryz.prog.info? 50).map (·.size)=some 8:=by kernel_rfl
  obtain ⟨i,h1,h2⟩:=t8.1 h;exact ⟨i,h1,h2⟩
 obtain ⟨i3,hi3,hz3⟩:∃ i,Tryz.prog.info? 3=some i∧i.size=1:=by
  have h:(Tryz.prog.info? 3).map (·.size)=some 1:=by kernel_rfl
  obtain ⟨i,h1,h2⟩:=t8.1 h;exact ⟨i,h1,h2⟩
 obtain ⟨i4,hi4,hz4⟩:∃ i,Tryz.prog.info? 4=some i∧i.size=1:=by
  have h:(Tryz.prog.info? 4).map (·.size)=some 1:=by kernel_rfl
  obtain ⟨i,h1,h2⟩:=t8.1 h;exact ⟨i,h1,h2⟩
 obtain ⟨W2,hst1,hs2⟩:=xA (P:=Tryz.prog) (t:=50) (z:=enc (default:ah)) (v:=.agg #[.int .i64 0,.int .i64 0,.int .i64 0,.int .i64 0,.int .i64 0,.int .i64 0,.int .i64 0,.string ⟨#[]⟩]) hs1 hx1 hE1 hsh1
  (ds:=[.int .i64 0,.int .i64 0,.int .i64 0,.int .i64 0,.int .i64 0,.int .i64 0,.int .i64 0,.string ⟨#[]⟩]) (by
   show ae _ _ _ (.agg [.agg [.int .i64 0,.int .i64 0],.int .i64 0,.int .i64 0,.int .i64 0,.agg [.int .i64 0,.int .i64 0],.ay ⟨#[]⟩]) _
   simp only[ae,aI];refine ⟨[.int .i64 0,.int .i64 0],_,rfl,⟨[.int .i64 0],_,rfl,⟨rfl,by decide⟩,[.int .i64 0],_,rfl,⟨rfl,by decide⟩,rfl⟩,[.int .i64 0],_,rfl,⟨rfl,by decide⟩,[.int .i64 0],_,rfl,⟨rfl,by decide⟩,[.int .i64 0],_,rfl,⟨rfl,by decide⟩,[.int .i64 0,.int .i64 0],_,rfl,⟨[.int .i64 0],_,rfl,⟨rfl,by decide⟩,[.int .i64 0],_,rfl,⟨rfl,by decide⟩,rfl⟩,[.string ⟨#[]⟩],[],rfl,⟨rfl,by decide⟩,rfl⟩) rfl hi50 hz50
 obtain ⟨y2,hy2,hsh2'⟩:=nx hE1 hE2 ⟨x2,hx2,hsh2⟩;obtain ⟨W3,hst2,hs3⟩:=xA (P:=Tryz.prog) (t:=3) (z:=.int .i64 0) (v:=.int .i64 0) hs2 hy2 hE2 hsh2' (ds:=[.int .i64 0]) (by simp only[ae];exact ⟨trivial,by decide⟩) rfl hi3 hz3;obtain ⟨y3,hy3,hsh3'⟩:=nx hE2 hE3 (nx hE1 hE3 ⟨x3,hx3,hsh3⟩);obtain ⟨W4,hst3,hs4⟩:=xA (P:=Tryz.prog) (t:=4) (z:=.bool false) (v:=.bool false) hs3 hy3 hE3 hsh3' (ds:=[.bool false]) (by simp only[ae]) rfl hi4 hz4;have hbl:∀ W,(Instr.build 50 #[]).run Tryz.prog W=.ok (.agg #[.int .i64 0,.int .i64 0,.int .i64 0,.int .i64 0,.int .i64 0,.int .i64 0,.int .i64 0,.string ⟨#[]⟩]) W:=fun W=>by
  simp[Instr.build,Tryz.zeroValue50,Instr.fill,Value.cells]
 simp only[wpListIn,Region.wanted,if_true];refine aax (v:=.agg #[.int .i64 0,.int .i64 0,.int .i64 0,.int .i64 0,.int .i64 0,.int .i64 0,.int .i64 0,.string ⟨#[]⟩]) (by simp only[execOp,Array.map_empty,Sem.run_bind,hbl];rfl) ?_;refine wC (xw rfl (by simp[Act.eval,Act.put]) (by simp[Act.eval,Act.put]) hst1) ?_;refine wC (xw rfl (by simp[Act.eval,Act.put]) (by simp[Act.eval]) hst2) ?_;refine wC (xw rfl (by simp[Act.eval,Act.put]) (by simp[Act.eval]) hst3) ?_;simp[Exit.inBlock,bodyPostS,results,Tryz.results124,settle];exact ⟨rfl,hs4⟩⟩
end Go.Proofs.YtoffnnjbplgnaaaGreatDoor
namespace Go.Proofs.YtoffnnjbplgnaaaGreatDoor
open Go Go.Abs Go.Shelf Go.RowKit
open Go.Abs.Enc (enc)
def Cn:Go.Shelf.Ren:=⟨fun | 166=>156 | 240=>173 | 276=>194 | n=>n,fun | 70=>203 | 9=>9 | 3=>3 | 75=>199 | 0=>0 | 72=>205 | 37=>45 | 4=>4 | 164=>237 | 80=>206 | 5=>5 | n=>n,fun | n=>n⟩
theorem Y1:Go.Proofs.Lays.n166 Tryz.prog Cn := {
 mixed:=by kernel_rfl
 f166:=Tryz.func156.trans (congrArg some (by kernel_rfl))
 f240:=Tryz.func173.trans (congrArg some (by kernel_rfl))
 f276:=Tryz.func194.trans (congrArg some (by kernel_rfl))
 t0:=Tryz.underlying0
 a0:=Tryz.isAgg0
 z0:=Tryz.sizeOf0
 v0:=Tryz.zeroValue0
 t3:=Tryz.underlying3
 a3:=Tryz.isAgg3
 z3:=Tryz.sizeOf3
 v3:=Tryz.zeroValue3
 t4:=Tryz.underlying4
 a4:=Tryz.isAgg4
 z4:=Tryz.sizeOf4
 v4:=Tryz.zeroValue4
 t9:=Tryz.underlying9
 a9:=Tryz.isAgg9
 z9:=Tryz.sizeOf9
 v9:=Tryz.zeroValue9
 t20:=Tryz.underlying20
 a20:=Tryz.isAgg20
 z20:=Tryz.sizeOf20
 v20:=Tryz.zeroValue20
 t37:=Tryz.underlying45
 a37:=Tryz.isAgg45
 z37:=Tryz.sizeOf45
 v37:=Tryz.zeroValue45
 t70:=Tryz.underlying203
 a70:=Tryz.isAgg203
 z70:=Tryz.sizeOf203
 v70:=Tryz.zeroValue203
 t72:=Tryz.underlying205
 a72:=Tryz.isAgg205
 z72:=Tryz.sizeOf205
 v72:=Tryz.zeroValue205
 t75:=Tryz.underlying199
 a75:=Tryz.isAgg199
 z75:=Tryz.sizeOf199
 v75:=Tryz.zeroValue199
 t164:=Tryz.underlying237
 a164:=Tryz.isAgg237
 z164:=Tryz.sizeOf237
 v164:=Tryz.zeroValue237 }
def Co:Go.Shelf.Ren:=⟨fun | 169=>157 | n=>n,fun | 70=>203 | 9=>9 | 0=>0 | 72=>205 | 37=>45 | 127=>202 | 3=>3 | 5=>5 | n=>n,fun | n=>n⟩
theorem Y2:Go.Proofs.Lays.n169 Tryz.prog Co := {
 mixed:=by kernel_rfl
 f169:=Tryz.func157.trans (congrArg some (by kernel_rfl))
 t0:=Tryz.underlying0
 a0:=Tryz.isAgg0
 z0:=Tryz.sizeOf0
 v0:=Tryz.zeroValue0
 t3:=Tryz.underlying3
 a3:=Tryz.isAgg3
 z3:=Tryz.sizeOf3
 v3:=Tryz.zeroValue3
 t9:=Tryz.underlying9
 a9:=Tryz.isAgg9
 z9:=Tryz.sizeOf9
 v9:=Tryz.zeroValue9
 t37:=Tryz.underlying45
 a37:=Tryz.isAgg45
 z37:=Tryz.sizeOf45
 v37:=Tryz.zeroValue45
 t70:=Tryz.underlying203
 a70:=Tryz.isAgg203
 z70:=Tryz.sizeOf203
 v70:=Tryz.zeroValue203
 t72:=Tryz.underlying205
 a72:=Tryz.isAgg205
 z72:=Tryz.sizeOf205
 v72:=Tryz.zeroValue205
 t127:=Tryz.underlying202
 a127:=Tryz.isAgg202
 z127:=Tryz.sizeOf202
 v127:=Tryz.zeroValue202 }
theorem Ob:Builder.Extra Tryz.prog Cn where
 sizeBuilder:=by kernel_rfl
 liesBuilder:=by kernel_rfl
 t5:=Tryz.underlying5
 a5:=Tryz.isAgg5
 z5:=Tryz.sizeOf5
 v5:=Tryz.zeroValue5
 infoByte:=by kernel_rfl
 cellsByte:=by kernel_rfl
 sizeByte:=by kernel_rfl
 neB5:=by decide
theorem Oc:Builder.Extra Tryz.prog Co where
 sizeBuilder:=by kernel_rfl
 liesBuilder:=by kernel_rfl
 t5:=Tryz.underlying5
 a5:=Tryz.isAgg5
 z5:=Tryz.sizeOf5
 v5:=Tryz.zeroValue5
 infoByte:=by kernel_rfl
 cellsByte:=by kernel_rfl
 sizeByte:=by kernel_rfl
 neB5:=by decide
abbrev lg(B b:Nat)(l:List UInt8)(w:World):Prop:=Lib.IsBuilderF 205 5 B b (Lib.byteCells l) w
abbrev uC(b:Nat)(w w':World):Prop:=Lib.OthersKept 5 (some b) w w'
theorem F8(B b:Nat)(l:List UInt8)(s:ByteArray)(w:World)(h:lg B b l w)(hlen:l.length+s.size≤140737488355328)(hB:B≤w.heap.size) :
  Calls Tryz.prog 156 #[.pointer (some ⟨b,0,none⟩),.string s] w fun e w'=>e=.returned (.tuple #[.int .i64 s.size,.nilIface])∧(lg B b (l++s.data.toList) w'∧Below B w w'∧uC b w w'):=by
 refine (Any.Builder_WriteString_k Y1 Ob B b (Lib.byteCells l) s w h (by rw[Lib.byteCells_length];exact hlen) hB).mono ?_;rintro e w' ⟨rfl,h1,h2,h3⟩;refine ⟨rfl,.inr ?_,h2,h3⟩;rw[Lib.byteCells_append];exact h1
theorem yI(B b:Nat)(l:List UInt8)(w:World)(h:lg B b l w)(hB:B≤w.heap.size) :
  Calls Tryz.prog 157 #[.pointer (some ⟨b,0,none⟩)] w fun e w'=>e=.returned (.string ⟨l.toArray⟩)∧(lg B b l w'∧Below B w w'∧uC b w w'):=Any.Builder_String_any_k Y2 Oc B b l w h hB
theorem YK(n:Int)(h:IntKind.i64.min≤n∧n≤IntKind.i64.max)(W:World)(hl:eK Tryz.prog W (fun _=>False)):Calls Tryz.prog 132 #[.int .i64 n] W fun e w'=>e=.returned (.string ⟨(Lib.itoa n).toArray⟩)∧Below W.heap.size W w':=by
 have h3':-9223372036854775808≤n:=h.1;have h4':n≤9223372036854775807:=h.2;obtain ⟨_,htab,rfl⟩:=hl.sx (n:=sO) (k:=.tE) (g:=3) (by simp[nt]) (by kernel_rfl);refine (Any.strconv_Itoa Ck n h3' h4' W htab).mono ?_;rintro e w' ⟨rfl,k,os,rfl⟩;exact ⟨rfl,uT W k os⟩
theorem Cj{w wr:World}(hl:eK Tryz.prog w (fun _=>False))(h:Below w.heap.size w wr):eK Tryz.prog wr (fun _=>False) :=
 hl.Cg (M:=fun b=>w.heap.size≤b) ⟨h.os,h.tape,h.output,h.size,fun k hk=>h.block k (by omega)⟩ (fun b hb=>.inl hb) (fun b hb=>hb.elim)
theorem sJ{B b:Nat}{l:List UInt8}{w w':World}(hI:lg B b l w)(h:Below w.heap.size w w'):lg B b l w':=by
 have key:∀ p,Lib.BuilderAtF 205 5 B b p (Lib.byteCells l) w→Lib.BuilderAtF 205 5 B b p (Lib.byteCells l) w':=by
  rintro p ⟨h1,v,h2,⟨h3,h4⟩,h5⟩;refine ⟨h1,v,(h.block b (eY h2)).trans h2,⟨h3,?_⟩,h5⟩;rcases h4 with h4 | ⟨g,cap,cur,fz,k1,k2,k3,k4⟩
  ·exact .inl h4
  ·exact .inr ⟨g,cap,cur,fz,k1,k2,(h.block g (eY k3)).trans k3,k4⟩
 exact hI.imp (key _) (key _)
theorem JV(a:List UInt8)(t:ByteArray):((⟨a.toArray⟩:ByteArray)++t)=⟨(a++t.data.toList).toArray⟩:=by
 apply ByteArray.ext;simp[ByteArray.data_append]
theorem aby(l:List Int)(n:Int):dD (l++[n])=dD l++(Lib.itoa n++[32]):=by simp[dD]
theorem Ik(m n k d kn om on:Int)(t:ByteArray)(w:World)(hl:eK Tryz.prog w (fun _=>False))(hbd:∀ x∈[m,n,k,d,kn,om,on],IntKind.i64.min≤x∧x≤IntKind.i64.max)(ht:t.size≤1000000000000) :
  Calls Tryz.prog 131 #[.agg #[.int .i64 m,.int .i64 n,.int .i64 k,.int .i64 d,.int .i64 kn,.int .i64 om,.int .i64 on,.string t]] w fun e w'=>e=.returned (.string ⟨(dD [m,n,k,d,kn,om,on]++t.data.toList).toArray⟩)∧Below w.heap.size w w':=by
 obtain ⟨vs,hvs⟩:∃ vs:List Int,vs=[m,n,k,d,kn,om,on]:=⟨_,rfl⟩
 have hvl:vs.length=7:=by rw[hvs];rfl
 rw[←hvs] at hbd;have hlen:∀ j,(dD (vs.take j)).length≤22*j:=by
  intro j;have:∀ l:List Int,(∀ x∈l,IntKind.i64.min≤x∧x≤IntKind.i64.max)→(dD l).length≤22*l.length:=by
   intro l
   induction l with
   |nil=>intro _;simp[dD]
   |cons x l ih =>
    intro h;have h1:=ih fun y hy=>h y (by simp[hy]);have h2:=Lib.itoa_length_le x (h x (by simp)).1 (h x (by simp)).2;simp only[dD] at h1;simp only[dD,List.flatMap_cons,zz1,zw0,zx9];omega
  have h3:=this (vs.take j) fun x hx=>hbd x (List.mem_of_mem_take hx);have h4:(vs.take j).length≤j:=by rw[zy0];omega
  omega
 go_enter Tryz.func131,Tryz.ntmps131
 go_wp2
 go_loopw [26] (fun i wr=>∃ j:Nat,j≤7∧i=.int .i64 j∧lg w.heap.size (w.heap.size+1) (dD (vs.take j)) wr∧wr.heap[w.heap.size]?=some (.cells #[.int .i64 m,.int .i64 n,.int .i64 k,.int .i64 d,.int .i64 kn,.int .i64 om,.int .i64 on,.string t] 50) ∧
  wr.heap[w.heap.size+1+1]?=some (.cells (vs.map (Value.int .i64)).toArray 3)∧Below w.heap.size w wr) (fun i _=>7-(RowKit.intOf i).toNat)
 case atStart =>
  obtain ⟨c1,hc1⟩:∃ c1,c1=Obj.cells #[.int .i64 m,.int .i64 n,.int .i64 k,.int .i64 d,.int .i64 kn,.int .i64 om,.int .i64 on,.string t] 50:=⟨_,rfl⟩
  have hv0:(#[.int .i64 m,.int .i64 n,.int .i64 k,.int .i64 d,.int .i64 kn,.int .i64 om,.int .i64 on]:Array Value)=(vs.map (Value.int .i64)).toArray:=by rw[hvs];rfl
  rw[←hc1,hv0];obtain ⟨w1,hw1⟩:∃ w1,w1=w.alloc c1:=⟨_,rfl⟩
  obtain ⟨w2,hw2⟩:∃ w2,w2=w1.alloc (Obj.cells #[Value.pointer none,Value.slice none 0 0] 205):=⟨_,rfl⟩
  obtain ⟨w3,hw3⟩:∃ w3,w3=w2.alloc (Obj.cells (vs.map (Value.int .i64)).toArray 3):=⟨_,rfl⟩
  have s1:w1.heap.size=w.heap.size+1:=by rw[hw1];simp
  have s2:w2.heap.size=w.heap.size+1+1:=by rw[hw2];simp[s1]
  have b1:Below w.heap.size w w1:=hw1▸jB w c1;have b2:Below w1.heap.size w1 w2:=hw2▸jB w1 _;have b3:Below w2.heap.size w2 w3:=hw3▸jB w2 _;have e1:w1.heap[w.heap.size]?=some c1:=hw1▸heap_alloc_new w c1;have e2:w2.heap[w1.heap.size]?=some (Obj.cells #[Value.pointer none,Value.slice none 0 0] 205):=hw2▸heap_alloc_new w1 _;have e3:w3.heap[w2.heap.size]?=some (Obj.cells (vs.map (Value.int .i64)).toArray 3):=hw3▸heap_alloc_new w2 _;rw[←hw1,←hw2,←hw3];refine ⟨0,by omega,rfl,.inl ⟨by omega,.slice none 0 0,?_,⟨rfl,.inl ⟨rfl,rfl⟩⟩,by simp[Value.ownBlock]⟩,?_,?_,?_⟩
  ·rw[b3.block _ (by omega),←s1];exact e2
  ·rw[b3.block _ (by omega),b2.block _ (by omega)];exact e1
  ·rw[←s2];exact e3
  ·exact (b1.trans (b2.mono (by omega))).trans (b3.mono (by omega))
 case round =>
  obtain ⟨j,hj,rfl,hI,hr,hv,hbw⟩:=hrel;have hB1:w.heap.size≤wr.heap.size:=hbw.size;by_cases hlt:j<7
  ·have hjv:j<vs.length:=by omega
   have hc:wr.cell? ⟨w.heap.size+1+1,j,none⟩=some (.int .i64 vs[j]):=by
    simp[World.cell?,hv,hjv]
   have hbx:=hbd vs[j] (zw3 hjv);have jg:=Lib.itoa_length_le vs[j] hbx.1 hbx.2;have hj2:=hlen j;have htk:dD (vs.take (j+1))=dD (vs.take j)++(Lib.itoa vs[j]++[32]):=by rw[zx7 hjv,aby]
   generalize vs[j]=x at *;have hsz:((⟨(Lib.itoa x).toArray⟩:ByteArray)++⟨#[32]⟩).size=(Lib.itoa x).length+1:=by rw[ByteArray.size_append];rfl
   have hdat:((⟨(Lib.itoa x).toArray⟩:ByteArray)++⟨#[32]⟩).data.toList=Lib.itoa x++[32]:=by simp
   have hlt':decide ((j:Int)<7)=true:=by simp;omega
   have hw:=dU (i:=j) (by omega)
   go_wp2_with (first | (go_at_call 132;refine (YK x hbx _ (Cj hl hbw)).mono ?_;rintro e W1 ⟨rfl,hb1⟩) | (go_at_call 156;refine (F8 w.heap.size (w.heap.size+1) _ _ _ (sJ hI hb1) (by rw[hsz];omega) (by have:=hb1.size;omega)).mono ?_;rintro e W2 ⟨rfl,hI2,hb2,hk2⟩))
   have q1:w.heap.size<wr.heap.size:=eY hr;have q2:w.heap.size+1+1<wr.heap.size:=eY hv;refine ⟨⟨j+1,by omega,rfl,?_,?_,?_,?_⟩,by simp only[RowKit.intOf];omega⟩
   ·rw[htk];rw[hdat] at hI2;exact hI2
   ·exact hk2 _ _ ((hb1.block _ q1).trans hr) (by simp) (fun c fz e=>by cases e)
   ·exact hk2 _ _ ((hb1.block _ q2).trans hv) (by simp) (fun c fz e=>by cases e)
   ·exact (hbw.trans (hb1.mono hB1)).trans hb2
  ·have hj7:j=7:=by omega
   subst hj7;have hlt':decide (((7:Nat):Int)<7)=false:=by decide
   rw[List.take_of_length_le (by omega)] at hI;have hcr:wr.cell? ⟨w.heap.size,7,none⟩=some (.string t):=by simp[World.cell?,hr]
   have q1:w.heap.size<wr.heap.size:=eY hr
   go_wp2
   have hI1:lg w.heap.size (w.heap.size+1) (dD vs) wr.drew:=sJ hI ⟨rfl,rfl,rfl,zz8 _,fun _ _=>rfl⟩;have hcd:wr.drew.cell? ⟨w.heap.size,7,none⟩=some (.string t):=hcr;have bf:∀ W2,uC (w.heap.size+1) wr.drew W2→W2.cell? ⟨w.heap.size,7,none⟩=some (.string t):=fun W2 hk=>by
    have:=hk _ _ hr (by simp) (fun c fz e=>by cases e);simp[World.cell?,this]
   have hl7:=hlen 7;rw[List.take_of_length_le (by omega)] at hl7;have hsum:¬ (9223372036854775807<(⟨(dD vs).toArray⟩:ByteArray).size+t.size):=by
    have e1:(⟨(dD vs).toArray⟩:ByteArray).size=(dD vs).length:=by show (dD vs).toArray.size=_;simp
    rw[e1];omega
   have hdr:Below w.heap.size wr wr.drew:=⟨rfl,rfl,rfl,zz8 _,fun _ _=>rfl⟩
   have hcall:=yI w.heap.size (w.heap.size+1) _ _ hI1 (by show _≤wr.heap.size;omega);generalize hS:(⟨(dD vs).toArray⟩:ByteArray)=S at *
   go_region_with (go_at_call 157;refine (hcall).mono ?_;rintro e W2 ⟨rfl,hI2,hb2,hk2⟩;have hc2:=bf W2 hk2)
   all_goals go_wp2
   all_goals go_ret
   all_goals refine ⟨?_,(hbw.trans hdr).trans hb2⟩
   all_goals rw[←hvs,←hS,JV]
   all_goals rfl
theorem EV{w:World}{D:aJ}{E:aO}{r:ah}{v:Value}(h:aQ w D E (enc r) v):v=.agg #[.int .i64 r.aT,.int .i64 r.no,.int .i64 r.kind,.int .i64 r.ee,.int .i64 r.known,.int .i64 r.eQ,.int .i64 r.fb,.string ⟨r.text.toArray⟩] ∧
  (∀ x∈eP r,IntKind.i64.min≤x∧x≤IntKind.i64.max)∧r.text.length≤maxLen:=by
 obtain ⟨cs,h1,h2⟩:=h;have h2':ae w D E (.agg [.agg [.int .i64 r.aT,.int .i64 r.no],.int .i64 r.kind,.int .i64 r.ee,.int .i64 r.known,.agg [.int .i64 r.eQ,.int .i64 r.fb],.ay ⟨r.text.toArray⟩]) cs:=h2;simp only[ae,aI] at h2';obtain ⟨_,_,rfl,⟨_,_,rfl,⟨rfl,a1⟩,_,_,rfl,⟨rfl,a2⟩,rfl⟩,_,_,rfl,⟨rfl,a3⟩,_,_,rfl,⟨rfl,a4⟩,_,_,rfl,⟨rfl,a5⟩,_,_,rfl,⟨_,_,rfl,⟨rfl,a6⟩,_,_,rfl,⟨rfl,a7⟩,rfl⟩,_,_,rfl,⟨rfl,a8⟩,rfl⟩:=h2';refine ⟨h1,?_,by simpa[ByteArray.size] using a8⟩;intro x hx;simp only[eP,zw5,List.not_mem_nil,or_false] at hx;rcases hx with rfl | rfl | rfl | rfl | rfl | rfl | rfl <;>assumption
theorem Gt(r:ah)(hs:r.text.length≤1000000000000):aK Tryz.prog 131 [enc r] (enc (aD.of (de r))):=by
 refine ⟨IJ,fun w D vs hl hD hv =>?_⟩;have hv':=hv;simp only[aB] at hv';obtain ⟨v,rest,cs,rfl,h1,h2,rfl⟩:=hv';obtain ⟨rfl,hb,_⟩:=EV (fD h1 h2);refine (Ik _ _ _ _ _ _ _ ⟨r.text.toArray⟩ w hl hb (by show r.text.toArray.size≤_;simpa using hs)).mono ?_;rintro e w' ⟨rfl,hbl⟩;have hlen:(de r).length≤1000000001000:=by
  have:∀ l:List Int,(∀ x∈l,IntKind.i64.min≤x∧x≤IntKind.i64.max)→(dD l).length≤22*l.length:=by
   intro l
   induction l with
   |nil=>intro _;simp[dD]
   |cons x l ih =>
    intro h;have h1:=ih fun y hy=>h y (by simp[hy]);have h2:=Lib.itoa_length_le x (h x (by simp)).1 (h x (by simp)).2;simp only[dD] at h1;simp only[dD,List.flatMap_cons,zz1,zw0,zx9];omega
  have h3:=this (eP r) hb;have h4:(eP r).length=7:=rfl;rw[de,zz1];omega
 exact ⟨_,D,rfl,Fg (l:=de r) (by unfold maxLen;omega),hbl,fun b o hd=>Nat.lt_of_lt_of_le (hD b o hd) hbl.size,fun _ _ h _=>h⟩
end Go.Proofs.YtoffnnjbplgnaaaGreatDoor
namespace Go.Proofs.YtoffnnjbplgnaaaGreatDoor
open Go Go.Abs
open Go.Abs.Enc (enc)
def gr(c:UInt8):Bool := !(decide ((c.toNat:Int)<32)||(decide ((c.toNat:Int)>126)||((c.toNat:Int)==63)))
def gU(t:List UInt8):Bool:=decide (t.length≤160)&&t.all gr
theorem CZ{t:List UInt8}{i:Nat}(h:i<t.length)(h1:(t.take i).all gr=true):(gr t[i]=true→(t.take (i+1)).all gr=true)∧(gr t[i]=false→t.all gr=false):=by
 refine ⟨fun h2 =>?_,fun h2 =>?_⟩
 ·rw[zx7 h,List.all_append,h1];simp[h2]
 ·rw[List.all_eq_false];exact ⟨t[i],zw3 h,by simp[h2]⟩
theorem pn(t:List UInt8):mC (enc (aD.of t))=some (.int .i64 (t.length:Int)):=by rw[qZ,aD.dC]
theorem Fv(t:List UInt8){i:Nat}(h:i<t.length):eC .dS [enc (aD.of t),.int .i64 (i:Int)]=some (.int .u8 (t[i].toNat:Int)):=Fu (aD.of t) h
theorem xd(t:List UInt8):lT (enc (aD.of t))=some (t.map enc):=rfl
theorem Gs(t:List UInt8):aK Tryz.prog 130 [enc (aD.of t)] (enc (gU t)):=by
 refine aK.bJ Tryz.func130 II J9 LC (t7 rfl) (fun hwf W0 bC E1 =>?_);simp only[y7,DH,bA];clear hwf;have hl:=pn t;have hsb:=xd t;rcases q:decide ((t.length:Int)>160)
 rotate_left
 ·have h1:(t.length:Int)>160:=of_decide_eq_true q;rw[show gU t=false by simp only[gU];rw[decide_eq_false (by omega)];rfl];have R:=y6 @hl (y6 @q (y6 @bu ak))
  repeat' ((first |(with_reducible refine .guard (fun hb =>?_) (fun hb =>?_) <;>try simp only[hb])|refine U.au (by decide +kernel) rfl fun K hK =>?_|(refine .aq [0,2,4,7,9,10,11,12,24] hK ?_;clear hK K)|(with_reducible refine .done (hK _ ?_);clear hK K)|refine U.of rfl ?_|(with_reducible refine aj.ar (fun h =>?_) (fun h =>?_) <;>try simp only[h])) <;>try simp only[av,R,simprocAttr])
  all_goals clear R
  all_goals rfl
 have h1:¬ (t.length:Int)>160:=of_decide_eq_false q;rw[show gU t=t.all gr by simp only[gU];rw[decide_eq_true (by omega)];rfl];have R:=y6 @hl (y6 @hsb (y6 @q (y6 @bu (y6 @fo ak))))
 repeat' ((first |(with_reducible refine .guard (fun hb =>?_) (fun hb =>?_) <;>try simp only[hb])|refine ba.eT rfl fun m =>?_|refine U.au (by decide +kernel) rfl fun K hK =>?_|(refine .aq [0,2,4,7,9,10,11,12,24] hK ?_;clear hK K)|(with_reducible refine .done (hK _ ?_);clear hK K)|refine U.of rfl ?_|(with_reducible refine aj.ar (fun h =>?_) (fun h =>?_) <;>try simp only[h])) <;>try simp only[av,R,simprocAttr])
 all_goals clear R
 refine U.loop (fun i:Nat=>al [(0,enc (aD.of t)),(9,enc t),(10,.int .i64 t.length),(11,.int .i64 i)] []) (fun i=>i≤t.length∧(t.take i).all gr=true) (fun i=>t.length-i) 0 ⟨zw7 _,rfl⟩ ?_ ?_
 ·refine bn.nj [9] 9 (x:=.view 9 [] 1 0 t.length) (y:=enc t) rfl (A6 rfl) ?_ ?_ ?_ ?_ ?_ <;>simp[dw,bF,bK,bP,bO,il,bI,I.only,bt]
 rintro i ⟨hi,hok⟩;by_cases hlt:i<t.length
 ·have hlc:=eB hlt;have he:=fun A=>dQ (A:=A) 1 hlt rfl;have hw:=dU (i:=i) (by omega);obtain ⟨h2,h3⟩:=CZ hlt hok;generalize t[i]=c at *;rcases q1:decide ((c.toNat:Int)<32)
  rotate_left
  ·rw[h3 (by simp[gr,q1])];have R:=y6 @hl (y6 @hlc (y6 @he (y6 @hw (y6 @q1 (y6 @rf (y6 @bu ak))))))
   repeat' ((first |(with_reducible refine .guard (fun hb =>?_) (fun hb =>?_) <;>try simp only[hb])|refine U.au (by decide +kernel) rfl fun K hK =>?_|(refine .aq [0,2,4,7,9,10,11,12,24] hK ?_;clear hK K)|(with_reducible refine .done (hK _ ?_);clear hK K)|refine U.of rfl ?_|(with_reducible refine aj.ar (fun h =>?_) (fun h =>?_) <;>try simp only[h])) <;>try simp only[av,R,simprocAttr])
   all_goals clear R
   all_goals rfl
  rcases q2:decide ((c.toNat:Int)>126)
  rotate_left
  ·rw[h3 (by simp only[gr,q1,q2];rfl)];have R:=y6 @hl (y6 @hlc (y6 @he (y6 @hw (y6 @q1 (y6 @q2 (y6 @rf (y6 @bu ak)))))))
   repeat' ((first |(with_reducible refine .guard (fun hb =>?_) (fun hb =>?_) <;>try simp only[hb])|refine U.au (by decide +kernel) rfl fun K hK =>?_|(refine .aq [0,2,4,7,9,10,11,12,24] hK ?_;clear hK K)|(with_reducible refine .done (hK _ ?_);clear hK K)|refine U.of rfl ?_|(with_reducible refine aj.ar (fun h =>?_) (fun h =>?_) <;>try simp only[h])) <;>try simp only[av,R,simprocAttr])
   all_goals clear R
   all_goals rfl
  rcases q3:((c.toNat:Int)==63)
  rotate_left
  ·rw[h3 (by simp only[gr,q1,q2,q3];rfl)];have R:=y6 @hl (y6 @hlc (y6 @he (y6 @hw (y6 @q1 (y6 @q2 (y6 @q3 (y6 @rf (y6 @bu ak))))))))
   repeat' ((first |(with_reducible refine .guard (fun hb =>?_) (fun hb =>?_) <;>try simp only[hb])|refine U.au (by decide +kernel) rfl fun K hK =>?_|(refine .aq [0,2,4,7,9,10,11,12,24] hK ?_;clear hK K)|(with_reducible refine .done (hK _ ?_);clear hK K)|refine U.of rfl ?_|(with_reducible refine aj.ar (fun h =>?_) (fun h =>?_) <;>try simp only[h])) <;>try simp only[av,R,simprocAttr])
   all_goals clear R
   all_goals rfl
  have h4:=h2 (by simp only[gr,q1,q2,q3];rfl);have R:=y6 @hl (y6 @hlc (y6 @he (y6 @hw (y6 @q1 (y6 @q2 (y6 @q3 (y6 @rf (y6 @bu ak))))))))
  repeat' ((first |(with_reducible refine .guard (fun hb =>?_) (fun hb =>?_) <;>try simp only[hb])|refine U.au (by decide +kernel) rfl fun K hK =>?_|(refine .aq [0,2,4,7,9,10,11,12,24] hK ?_;clear hK K)|(with_reducible refine .done (hK _ ?_);clear hK K)|refine U.of rfl ?_|(with_reducible refine aj.ar (fun h =>?_) (fun h =>?_) <;>try simp only[h])) <;>try simp only[av,R,simprocAttr])
  all_goals clear R
  refine ⟨i+1,⟨by omega,h4⟩,by omega,?_⟩;clear h2 h3 h4 hok;refine bn.bZ ?_ ?_ ?_ ?_ <;>simp[bK,bP,bO,bF,bI,I.only,bt]
 ·have hlc:=eX hlt;have hge:i=t.length:=by omega
  rw[hge,List.take_length] at hok;rw[hok];have R:=y6 @hl (y6 @hlc (y6 @bu ak))
  repeat' ((first |(with_reducible refine .guard (fun hb =>?_) (fun hb =>?_) <;>try simp only[hb])|refine U.au (by decide +kernel) rfl fun K hK =>?_|(refine .aq [0,2,4,7,9,10,11,12,24] hK ?_;clear hK K)|(with_reducible refine .done (hK _ ?_);clear hK K)|refine U.of rfl ?_|(with_reducible refine aj.ar (fun h =>?_) (fun h =>?_) <;>try simp only[h])) <;>try simp only[av,R,simprocAttr])
  all_goals clear R
  all_goals rfl
theorem G0(t:List UInt8):aK Tryz.prog 86 [enc (aD.of t)] (enc (gU t)):=by
 refine aK.bJ Tryz.func86 JE K0 Mv (t7 rfl) (fun hwf W0 bC E1 =>?_);simp only[zR,EE,bA];clear hwf;have hl:=pn t;rcases q:decide ((t.length:Int)>160)
 rotate_left
 ·have h1:(t.length:Int)>160:=of_decide_eq_true q;rw[show gU t=false by simp only[gU];rw[decide_eq_false (by omega)];rfl];have R:=y6 @hl (y6 @q (y6 @bu ak))
  repeat' ((first |(with_reducible refine .guard (fun hb =>?_) (fun hb =>?_) <;>try simp only[hb])|refine U.au (by decide +kernel) rfl fun K hK =>?_|(refine .aq [0,2,3,6,10,28] hK ?_;clear hK K)|(with_reducible refine .done (hK _ ?_);clear hK K)|refine U.of rfl ?_|(with_reducible refine aj.ar (fun h =>?_) (fun h =>?_) <;>try simp only[h])) <;>try simp only[av,R,simprocAttr])
  all_goals clear R
  all_goals rfl
 have h1:¬ (t.length:Int)>160:=of_decide_eq_false q;rw[show gU t=t.all gr by simp only[gU];rw[decide_eq_true (by omega)];rfl];have R:=y6 @hl (y6 @q (y6 @bu ak))
 repeat' ((first |(with_reducible refine .guard (fun hb =>?_) (fun hb =>?_) <;>try simp only[hb])|refine U.au (by decide +kernel) rfl fun K hK =>?_|(refine .aq [0,2,3,6,10,28] hK ?_;clear hK K)|(with_reducible refine .done (hK _ ?_);clear hK K)|refine U.of rfl ?_|(with_reducible refine aj.ar (fun h =>?_) (fun h =>?_) <;>try simp only[h])) <;>try simp only[av,R,simprocAttr])
 all_goals clear R
 refine U.loop (fun i:Nat=>al [(0,enc (aD.of t)),(3,.int .i64 i)] []) (fun i=>i≤t.length∧(t.take i).all gr=true) (fun i=>t.length-i) 0 ⟨zw7 _,rfl⟩ ?_ ?_
 ·refine bn.bZ ?_ ?_ ?_ ?_ <;>simp[bK,bP,bO,bF,bI,I.only,bt]
 rintro i ⟨hi,hok⟩;by_cases hlt:i<t.length
 ·have hlc:=eB hlt;have he:=Fv t hlt;have hw:=dU (i:=i) (by omega);obtain ⟨h2,h3⟩:=CZ hlt hok;generalize t[i]=c at *;rcases q1:decide ((c.toNat:Int)<32)
  rotate_left
  ·rw[h3 (by simp[gr,q1])];have R:=y6 @hl (y6 @hlc (y6 @he (y6 @hw (y6 @q1 (y6 @bu ak)))))
   repeat' ((first |(with_reducible refine .guard (fun hb =>?_) (fun hb =>?_) <;>try simp only[hb])|refine U.au (by decide +kernel) rfl fun K hK =>?_|(refine .aq [0,2,3,6,10,28] hK ?_;clear hK K)|(with_reducible refine .done (hK _ ?_);clear hK K)|refine U.of rfl ?_|(with_reducible refine aj.ar (fun h =>?_) (fun h =>?_) <;>try simp only[h])) <;>try simp only[av,R,simprocAttr])
   all_goals clear R
   all_goals rfl
  rcases q2:decide ((c.toNat:Int)>126)
  rotate_left
  ·rw[h3 (by simp only[gr,q1,q2];rfl)];have R:=y6 @hl (y6 @hlc (y6 @he (y6 @hw (y6 @q1 (y6 @q2 (y6 @bu ak))))))
   repeat' ((first |(with_reducible refine .guard (fun hb =>?_) (fun hb =>?_) <;>try simp only[hb])|refine U.au (by decide +kernel) rfl fun K hK =>?_|(refine .aq [0,2,3,6,10,28] hK ?_;clear hK K)|(with_reducible refine .done (hK _ ?_);clear hK K)|refine U.of rfl ?_|(with_reducible refine aj.ar (fun h =>?_) (fun h =>?_) <;>try simp only[h])) <;>try simp only[av,R,simprocAttr])
   all_goals clear R
   all_goals rfl
  rcases q3:((c.toNat:Int)==63)
  rotate_left
  ·rw[h3 (by simp only[gr,q1,q2,q3];rfl)];have R:=y6 @hl (y6 @hlc (y6 @he (y6 @hw (y6 @q1 (y6 @q2 (y6 @q3 (y6 @bu ak)))))))
   repeat' ((first |(with_reducible refine .guard (fun hb =>?_) (fun hb =>?_) <;>try simp only[hb])|refine U.au (by decide +kernel) rfl fun K hK =>?_|(refine .aq [0,2,3,6,10,28] hK ?_;clear hK K)|(with_reducible refine .done (hK _ ?_);clear hK K)|refine U.of rfl ?_|(with_reducible refine aj.ar (fun h =>?_) (fun h =>?_) <;>try simp only[h])) <;>try simp only[av,R,simprocAttr])
   all_goals clear R
   all_goals rfl
  have h4:=h2 (by simp only[gr,q1,q2,q3];rfl);have R:=y6 @hl (y6 @hlc (y6 @he (y6 @hw (y6 @q1 (y6 @q2 (y6 @q3 (y6 @bu ak)))))))
  repeat' ((first |(with_reducible refine .guard (fun hb =>?_) (fun hb =>?_) <;>try simp only[hb])|refine U.au (by decide +kernel) rfl fun K hK =>?_|(refine .aq [0,2,3,6,10,28] hK ?_;clear hK K)|(with_reducible refine .done (hK _ ?_);clear hK K)|refine U.of rfl ?_|(with_reducible refine aj.ar (fun h =>?_) (fun h =>?_) <;>try simp only[h])) <;>try simp only[av,R,simprocAttr])
  all_goals clear R
  refine ⟨i+1,⟨by omega,h4⟩,by omega,?_⟩;clear h2 h3 h4 hok;refine bn.bZ ?_ ?_ ?_ ?_ <;>simp[bK,bP,bO,bF,bI,I.only,bt]
 ·have hlc:=eX hlt;have hge:i=t.length:=by omega
  rw[hge,List.take_length] at hok;rw[hok];have R:=y6 @hl (y6 @hlc (y6 @bu ak))
  repeat' ((first |(with_reducible refine .guard (fun hb =>?_) (fun hb =>?_) <;>try simp only[hb])|refine U.au (by decide +kernel) rfl fun K hK =>?_|(refine .aq [0,2,3,6,10,28] hK ?_;clear hK K)|(with_reducible refine .done (hK _ ?_);clear hK K)|refine U.of rfl ?_|(with_reducible refine aj.ar (fun h =>?_) (fun h =>?_) <;>try simp only[h])) <;>try simp only[av,R,simprocAttr])
  all_goals clear R
  all_goals rfl
def o7(r:ah):Bool:=(r.ee==0)&&(decide (r.text=[])&&(iQ r.fw&&((r.eQ==r.aT)&&decide (r.fb<r.no))))
def gu(r:ah):Bool:=iQ r.aV&&(dP 0 40 r.kind&&(dP 0 100000 r.ee&&(dP 0 100000 r.known&&gU r.text)))
def bm(r:ah):Bool:=gu r&&(if r.kind=0 then o7 r else decide (r.fw=⟨0,0⟩))
theorem iL:(I.ay ⟨#[]⟩)=enc (aD.of []):=rfl
theorem pW:(I.agg [.int .i64 0,.int .i64 0])=enc (⟨0,0⟩:Item):=rfl
theorem lU(a b:List UInt8):bS .eql (enc (aD.of a)) (enc (aD.of b))=some (.bool (decide (a=b))):=by rw[xb];simp only[aD.tn]
theorem iT(a b:List UInt8):bS .neq (enc (aD.of a)) (enc (aD.of b))=some (.bool (!decide (a=b))):=by rw[xc];simp only[aD.tn]
theorem pG(r:ah):aK Tryz.prog 80 [enc r] (enc (bm r)):=by
 refine aK.bJ Tryz.func80 Jz KV Mq (t7 rfl) (fun hwf W0 bC E1 =>?_);simp only[c80,Ez,bA];clear hwf;have f1:=xP r.aV;have f2:=mT r.kind 0 40;have f3:=uv r.ee;have f4:=uv r.known;have f5:=Gs r.text;have f6:=xP r.fw;cases q1:iQ r.aV
 ·rw[q1] at f1;rw[show bm r=false by simp only[bm,gu,q1,zw6]];have R:=y6 @q1 (y6 @bu ak)
  repeat' ((first |(with_reducible refine .guard (fun hb =>?_) (fun hb =>?_) <;>try simp only[hb])|refine U.au (by decide +kernel) rfl fun K hK =>?_|refine .flat _ (f1) rfl ?_|refine .flat _ (f2) rfl ?_|refine .flat _ (f3) rfl ?_|refine .flat _ (f4) rfl ?_|refine .flat _ (f5) rfl ?_|(refine .aq [0,1,2,30,33] hK ?_;clear hK K)|(with_reducible refine .done (hK _ ?_);clear hK K)|refine U.of rfl ?_|(with_reducible refine aj.ar (fun h =>?_) (fun h =>?_) <;>try simp only[h])) <;>try simp only[av,R,simprocAttr])
  all_goals clear R
  all_goals rfl
 rw[q1] at f1;cases q2:dP 0 40 r.kind
 ·rw[q2] at f2;rw[show bm r=false by simp only[bm,gu,q1,q2,zw6,Bool.and_false]];have R:=y6 @bu ak
  repeat' ((first |(with_reducible refine .guard (fun hb =>?_) (fun hb =>?_) <;>try simp only[hb])|refine U.au (by decide +kernel) rfl fun K hK =>?_|refine .flat _ (f1) rfl ?_|refine .flat _ (f2) rfl ?_|refine .flat _ (f3) rfl ?_|refine .flat _ (f4) rfl ?_|refine .flat _ (f5) rfl ?_|(refine .aq [0,1,2,30,33] hK ?_;clear hK K)|(with_reducible refine .done (hK _ ?_);clear hK K)|refine U.of rfl ?_|(with_reducible refine aj.ar (fun h =>?_) (fun h =>?_) <;>try simp only[h])) <;>try simp only[av,R,simprocAttr])
  all_goals clear R
  all_goals rfl
 rw[q2] at f2;cases q3:dP 0 100000 r.ee
 ·rw[q3] at f3;rw[show bm r=false by simp only[bm,gu,q1,q2,q3,zw6,Bool.and_false]];have R:=y6 @bu ak
  repeat' ((first |(with_reducible refine .guard (fun hb =>?_) (fun hb =>?_) <;>try simp only[hb])|refine U.au (by decide +kernel) rfl fun K hK =>?_|refine .flat _ (f1) rfl ?_|refine .flat _ (f2) rfl ?_|refine .flat _ (f3) rfl ?_|refine .flat _ (f4) rfl ?_|refine .flat _ (f5) rfl ?_|(refine .aq [0,1,2,30,33] hK ?_;clear hK K)|(with_reducible refine .done (hK _ ?_);clear hK K)|refine U.of rfl ?_|(with_reducible refine aj.ar (fun h =>?_) (fun h =>?_) <;>try simp only[h])) <;>try simp only[av,R,simprocAttr])
  all_goals clear R
  all_goals rfl
 rw[q3] at f3;cases q4:dP 0 100000 r.known
 ·rw[q4] at f4;rw[show bm r=false by simp only[bm,gu,q1,q2,q3,q4,zw6,Bool.and_false]];have R:=y6 @bu ak
  repeat' ((first |(with_reducible refine .guard (fun hb =>?_) (fun hb =>?_) <;>try simp only[hb])|refine U.au (by decide +kernel) rfl fun K hK =>?_|refine .flat _ (f1) rfl ?_|refine .flat _ (f2) rfl ?_|refine .flat _ (f3) rfl ?_|refine .flat _ (f4) rfl ?_|refine .flat _ (f5) rfl ?_|(refine .aq [0,1,2,30,33] hK ?_;clear hK K)|(with_reducible refine .done (hK _ ?_);clear hK K)|refine U.of rfl ?_|(with_reducible refine aj.ar (fun h =>?_) (fun h =>?_) <;>try simp only[h])) <;>try simp only[av,R,simprocAttr])
  all_goals clear R
  all_goals rfl
 rw[q4] at f4;cases q5:gU r.text
 ·rw[q5] at f5;rw[show bm r=false by simp only[bm,gu,q1,q2,q3,q4,q5,zw6,Bool.and_false]];have R:=y6 @bu ak
  repeat' ((first |(with_reducible refine .guard (fun hb =>?_) (fun hb =>?_) <;>try simp only[hb])|refine U.au (by decide +kernel) rfl fun K hK =>?_|refine .flat _ (f1) rfl ?_|refine .flat _ (f2) rfl ?_|refine .flat _ (f3) rfl ?_|refine .flat _ (f4) rfl ?_|refine .flat _ (f5) rfl ?_|(refine .aq [0,1,2,30,33] hK ?_;clear hK K)|(with_reducible refine .done (hK _ ?_);clear hK K)|refine U.of rfl ?_|(with_reducible refine aj.ar (fun h =>?_) (fun h =>?_) <;>try simp only[h])) <;>try simp only[av,R,simprocAttr])
  all_goals clear R
  all_goals rfl
 rw[q5] at f5;have hH:gu r=true:=by simp only[gu,q1,q2,q3,q4,q5,Bool.and_self]
 cases k:(r.kind==0)
 ·rw[show bm r=decide (r.fw=⟨0,0⟩) by simp only[bm,hH,Bool.true_and];rw[if_neg (by simpa using k)]];have R:=y6 @k (y6 @pW (y6 @bu ak))
  repeat' ((first |(with_reducible refine .guard (fun hb =>?_) (fun hb =>?_) <;>try simp only[hb])|refine U.au (by decide +kernel) rfl fun K hK =>?_|refine .flat _ (f1) rfl ?_|refine .flat _ (f2) rfl ?_|refine .flat _ (f3) rfl ?_|refine .flat _ (f4) rfl ?_|refine .flat _ (f5) rfl ?_|(refine .aq [0,1,2,30,33] hK ?_;clear hK K)|(with_reducible refine .done (hK _ ?_);clear hK K)|refine U.of rfl ?_|(with_reducible refine aj.ar (fun h =>?_) (fun h =>?_) <;>try simp only[h])) <;>try simp only[av,R,simprocAttr])
  all_goals clear R
  all_goals rfl
 rw[show bm r=o7 r by simp only[bm,hH,Bool.true_and];rw[if_pos (by simpa using k)]];simp only[o7];cases w1:(r.ee==0)
 ·have R:=y6 @k (y6 @w1 (y6 @iL (y6 @lU (y6 @bu ak))))
  repeat' ((first |(with_reducible refine .guard (fun hb =>?_) (fun hb =>?_) <;>try simp only[hb])|refine U.au (by decide +kernel) rfl fun K hK =>?_|refine .flat _ (f1) rfl ?_|refine .flat _ (f2) rfl ?_|refine .flat _ (f3) rfl ?_|refine .flat _ (f4) rfl ?_|refine .flat _ (f5) rfl ?_|refine .flat _ (f6) rfl ?_|(refine .aq [0,1,2,30,33] hK ?_;clear hK K)|(with_reducible refine .done (hK _ ?_);clear hK K)|refine U.of rfl ?_|(with_reducible refine aj.ar (fun h =>?_) (fun h =>?_) <;>try simp only[h])) <;>try simp only[av,R,simprocAttr])
  all_goals clear R
  all_goals rfl
 cases w2:decide (r.text=[])
 ·have R:=y6 @k (y6 @w1 (y6 @w2 (y6 @iL (y6 @lU (y6 @bu ak)))))
  repeat' ((first |(with_reducible refine .guard (fun hb =>?_) (fun hb =>?_) <;>try simp only[hb])|refine U.au (by decide +kernel) rfl fun K hK =>?_|refine .flat _ (f1) rfl ?_|refine .flat _ (f2) rfl ?_|refine .flat _ (f3) rfl ?_|refine .flat _ (f4) rfl ?_|refine .flat _ (f5) rfl ?_|refine .flat _ (f6) rfl ?_|(refine .aq [0,1,2,30,33] hK ?_;clear hK K)|(with_reducible refine .done (hK _ ?_);clear hK K)|refine U.of rfl ?_|(with_reducible refine aj.ar (fun h =>?_) (fun h =>?_) <;>try simp only[h])) <;>try simp only[av,R,simprocAttr])
  all_goals clear R
  all_goals rfl
 cases w3:iQ r.fw
 ·rw[w3] at f6;have R:=y6 @k (y6 @w1 (y6 @w2 (y6 @iL (y6 @lU (y6 @bu ak)))))
  repeat' ((first |(with_reducible refine .guard (fun hb =>?_) (fun hb =>?_) <;>try simp only[hb])|refine U.au (by decide +kernel) rfl fun K hK =>?_|refine .flat _ (f1) rfl ?_|refine .flat _ (f2) rfl ?_|refine .flat _ (f3) rfl ?_|refine .flat _ (f4) rfl ?_|refine .flat _ (f5) rfl ?_|refine .flat _ (f6) rfl ?_|(refine .aq [0,1,2,30,33] hK ?_;clear hK K)|(with_reducible refine .done (hK _ ?_);clear hK K)|refine U.of rfl ?_|(with_reducible refine aj.ar (fun h =>?_) (fun h =>?_) <;>try simp only[h])) <;>try simp only[av,R,simprocAttr])
  all_goals clear R
  all_goals rfl
 rw[w3] at f6;cases w4:(r.eQ==r.aT)
 ·have R:=y6 @k (y6 @w1 (y6 @w2 (y6 @w4 (y6 @iL (y6 @lU (y6 @bu ak))))))
  repeat' ((first |(with_reducible refine .guard (fun hb =>?_) (fun hb =>?_) <;>try simp only[hb])|refine U.au (by decide +kernel) rfl fun K hK =>?_|refine .flat _ (f1) rfl ?_|refine .flat _ (f2) rfl ?_|refine .flat _ (f3) rfl ?_|refine .flat _ (f4) rfl ?_|refine .flat _ (f5) rfl ?_|refine .flat _ (f6) rfl ?_|(refine .aq [0,1,2,30,33] hK ?_;clear hK K)|(with_reducible refine .done (hK _ ?_);clear hK K)|refine U.of rfl ?_|(with_reducible refine aj.ar (fun h =>?_) (fun h =>?_) <;>try simp only[h])) <;>try simp only[av,R,simprocAttr])
  all_goals clear R
  all_goals rfl
 have R:=y6 @k (y6 @w1 (y6 @w2 (y6 @w4 (y6 @iL (y6 @lU (y6 @bu ak))))))
 repeat' ((first |(with_reducible refine .guard (fun hb =>?_) (fun hb =>?_) <;>try simp only[hb])|refine U.au (by decide +kernel) rfl fun K hK =>?_|refine .flat _ (f1) rfl ?_|refine .flat _ (f2) rfl ?_|refine .flat _ (f3) rfl ?_|refine .flat _ (f4) rfl ?_|refine .flat _ (f5) rfl ?_|refine .flat _ (f6) rfl ?_|(refine .aq [0,1,2,30,33] hK ?_;clear hK K)|(with_reducible refine .done (hK _ ?_);clear hK K)|refine U.of rfl ?_|(with_reducible refine aj.ar (fun h =>?_) (fun h =>?_) <;>try simp only[h])) <;>try simp only[av,R,simprocAttr])
 all_goals clear R
 all_goals rfl
def jb(r:ah):Int:=if bm r=true then 0 else 80
def dI(t:List UInt8):List (List UInt8):=(jC 10 true t).dropLast
theorem Cx{t:List UInt8}(h:∀ b∈t,b≠10):dI t=[]:=by rw[dI,AA h];rfl
theorem Y9{x:List UInt8}(y:List UInt8)(h:∀ b∈x,b≠10):dI (x++10::y)=(x++[10])::dI y:=by
 rw[dI,Az y h,if_pos rfl,List.dropLast_cons_of_ne_nil (ML 10 true y)];rfl
def js(cC:Int→List UInt8→Option (ah×Int))(nx:List ah→ah→Bool):List ah→Int→Nat→List (List UInt8)→List ah×Nat
 |out,_,size,[]=>(out,size)
 |out,s,size,x::t=>match cC s x with
  |none=>(out,size)
  |some q=>if nx out q.1=true then js cC nx (out++[q.1]) q.2 (size+x.length) t else (out,size)
def eJ:Int→List ah→List UInt8
 |_,[]=>[]
 |s,r::l=>dR s r++eJ (dy s (de r)) l
def dW:Int→List ah→Int
 |s,[]=>s
 |s,r::l=>dW (dy s (de r)) l
theorem F0:∀ (a b:List ah) (s:Int),eJ s (a++b)=eJ s a++eJ (dW s a) b
 | [],_,_=>rfl
 |r::a,b,s=>by simp only[zy2,eJ,dW,F0 a b,zy3]
theorem FU:∀ (a b:List ah) (s:Int),dW s (a++b)=dW (dW s a) b
 | [],_,_=>rfl
 |r::a,b,s=>by simp only[zy2,dW,FU a b]
theorem FV:∀ (a:List ah) {s:Int},0≤s∧s<1000003→0≤dW s a∧dW s a<1000003
 | [],_,h=>h
 |_::a,_,h=>FV a (pw h _)
theorem ue(a:List ah)(r:ah)(s:Int):eJ s (a++[r])=eJ s a++dR (dW s a) r∧dW s (a++[r])=dy (dW s a) (de r):=by
 rw[F0,FU];simp only[eJ,dW,List.append_nil,and_self]
def jx(ok:ah→Bool)(nx:List ah→ah→Bool):List ah→List ah→Prop
 |_,[]=>True
 |out,r::l=>ok r=true∧nx out r=true∧jx ok nx (out++[r]) l
def jQ(ok:ah→Bool)(nx:List ah→ah→Bool)(t:List UInt8):List ah×List UInt8:=((js (ep ok) nx [] 1 0 (dI t)).1,t.take (js (ep ok) nx [] 1 0 (dI t)).2)
def tx(ok:ah→Bool)(nx:List ah→ah→Bool)(a b:List UInt8):List ah×List UInt8 :=
 if (jQ ok nx a).1.length<(jQ ok nx b).1.length then jQ ok nx b else jQ ok nx a
def dN(l:List ah)(m:Int):Nat:=l.countP fun r=>decide (r.aT=m)
def ic(a b:ah):Bool:=decide (a.aT<b.aT∨(a.aT=b.aT∧a.no<b.no))
def iG(l:List ah)(r:ah):Bool:=match l.getLast? with
 |none=>decide ((r.aT=-1∧r.no=1)∨(-1<r.aT∧r.no=0))
 |some a=>decide ((r.aT=a.aT∧r.no=a.no+1)∨(a.aT<r.aT∧r.no=0))
def kX(l:List ah)(r:ah):Bool:=(match l.getLast? with
 |none=>true
 |some a=>ic a r)&&decide ((dN l r.aT:Int)=r.no)
def fp(aS:List ah→ah→Bool):List ah→List ah→Bool
 |_,[]=>true
 |out,r::l=>aS out r&&fp aS (out++[r]) l
def od(l:List ah):Prop:=match l.getLast? with
 |none=>True
 |some a=>(dN l a.aT:Int)=a.no+1∧∀ m,a.aT<m→dN l m=0
theorem pV(l:List ah)(r:ah)(m:Int):dN (l++[r]) m=dN l m+if r.aT=m then 1 else 0:=by
 rw[dN,List.countP_append,←dN,List.countP_cons,List.countP_nil];simp
theorem FP{l:List ah}(h:od l){r:ah}(hr:0≤r.aT∧0≤r.no):iG l r=kX l r∧(iG l r=true→od (l++[r])):=by
 rw[od] at h;have hl:(l++[r]).getLast?=some r:=by rw[List.getLast?_append];rfl
 rw[od,hl,iG,kX];cases e:l.getLast? with
 |none =>
  have hnil:l=[]:=List.getLast?_eq_none_iff.1 e;subst hnil;have c0:∀ m,dN [] m=0:=fun _=>rfl;have c1:=c0 r.aT;simp only[Bool.true_and];refine ⟨?_,?_⟩
  ·rw[Bool.eq_iff_iff,decide_eq_true_iff,decide_eq_true_iff];constructor
   ·intro h;rcases h with h | h <;>omega
   ·intro h;right;omega
  ·intro h;rw[decide_eq_true_eq] at h;refine ⟨by rw[pV,if_pos rfl];omega,fun m hm =>?_⟩;rw[pV,if_neg (by omega),c0]
 |some a =>
  rw[e] at h;obtain ⟨h1,h2⟩:=h;simp only;refine ⟨?_,?_⟩
  ·rw[ic,Bool.eq_iff_iff,zz0,decide_eq_true_eq,decide_eq_true_eq,decide_eq_true_eq];rcases Int.lt_trichotomy a.aT r.aT with c | c | c
   ·have:=h2 r.aT c;constructor
    ·intro k;exact ⟨.inl c,by omega⟩
    ·intro k;right;omega
   ·rw[←c];constructor
    ·intro k;exact ⟨.inr ⟨rfl,by omega⟩,by omega⟩
    ·intro k;left;omega
   ·constructor
    ·intro k;omega
    ·intro k;omega
  ·intro k;rw[decide_eq_true_eq] at k;rw[pV,if_pos rfl];refine ⟨?_,fun m hm =>?_⟩
   ·rcases k with k | k
    ·rw[k.1];omega
    ·have:=h2 r.aT k.1;omega
   ·rw[pV,if_neg (by omega),h2 m (by omega)]
theorem yq:∀ (l out:List ah),od out→(∀ r∈l,0≤r.aT∧0≤r.no)→fp iG out l=fp kX out l
 | [],_,_,_=>rfl
 |r::l,out,h,hr=>by
  obtain ⟨e,k⟩:=FP h (hr r (by simp));simp only[fp,←e];cases hs:iG out r with
  |false=>rfl
  |true=>rw[yq l (out++[r]) (k hs) fun x hx=>hr x (by simp[hx])]
theorem yJ{l:List ah}(hr:∀ r∈l,0≤r.aT∧0≤r.no):fp iG [] l=fp kX [] l:=yq l [] trivial hr
theorem yK:∀ (l out:List ah),od out→(∀ r∈l,0≤r.aT∧0≤r.no)→fp iG out l=true→out.Pairwise (fun a b=>ic a b=true)→(out++l).Pairwise (fun a b=>ic a b=true)
 | [],out,_,_,_,h=>by simpa using h
 |r::l,out,h,hr,hb,hp=>by
  simp only[fp,zz0] at hb;obtain ⟨e,k⟩:=FP h (hr r (by simp));have:=yK l (out++[r]) (k hb.1) (fun x hx=>hr x (by simp[hx])) hb.2 (by
   rw[List.pairwise_append];refine ⟨hp,by simp,fun a ha b hb' =>?_⟩;rw[List.mem_singleton.1 hb'];have hs:=hb.1;rw[e,kX,zz0] at hs;have hne:out≠[]:=fun k=>by rw[k] at ha;cases ha
   have hlast:=List.getLast?_eq_some_getLast hne;rw[hlast] at hs;have h1:=hs.1;have hcat:=List.dropLast_concat_getLast hne;rw[←hcat] at ha hp;rcases zw1.1 ha with ha | ha
   ·have h2:=(List.pairwise_append.1 hp).2.2 a ha _ (List.mem_singleton.2 rfl);simp only[ic,decide_eq_true_eq] at h1 h2 ⊢;omega
   ·rw[List.mem_singleton.1 ha];exact h1)
  rwa [zy3,List.singleton_append] at this
def en(out:List ah)(r:ah):Bool:=decide (out.length<60)&&decide ((dN out r.aT:Int)=r.no)
theorem jx.len{ok:ah→Bool} : ∀ {l out:List ah},out.length≤60→jx ok en out l→out.length+l.length≤60
 | [],out,h,_=>by simpa using h
 |r::l,out,h,hw=>by
  have hn:=hw.2.1;simp only[en,zz0,decide_eq_true_eq] at hn;have:=jx.len (out:=out++[r]) (by simp;omega) hw.2.2;simp only[zz1,zw0,zx9] at this ⊢;omega
def rh(x r:ah):Bool:=decide (r.aT=x.aT∧r.no=x.no)
def mi(ok:ah→Bool)(w:List ah)(x:ah)(e1 e2 e3 e4:Int):Bool×Int :=
 if ok x=false then (false,e1) else match w.find? (rh x) with
  |some r=>if r=x then (false,0) else (false,e2)
  |none=>if x.no>(dN w x.aT:Int) then (false,e3) else if w.length=60 then (false,e4) else (true,0)
theorem jx.ok{ok:ah→Bool}{nx:List ah→ah→Bool} : ∀ {l out:List ah},jx ok nx out l→∀ r∈l,ok r=true
 | [],_,_,r,h=>by cases h
 |_::_,_,hw,r,h=>by
  rcases zw5.1 h with rfl | h
  ·exact hw.1
  ·exact jx.ok hw.2.2 r h
theorem aaE{l:List ah}(h:l.Pairwise (fun x y=>¬ (x.aT=y.aT∧x.no=y.no))){a b:ah}(ha:a∈l)(hb:b∈l)(e:a.aT=b.aT∧a.no=b.no):a=b:=by
 obtain ⟨i,hi,rfl⟩:=List.getElem_of_mem ha;obtain ⟨j,hj,rfl⟩:=List.getElem_of_mem hb;rcases Nat.lt_trichotomy i j with c | c | c
 ·exact absurd e (List.pairwise_iff_getElem.1 h i j hi hj c)
 ·subst c;rfl
 ·exact absurd ⟨e.1.symm,e.2.symm⟩ (List.pairwise_iff_getElem.1 h j i hj hi c)
def lL(l:List ah)(r:ah):List ah:=l.takeWhile (fun q=>ic q r)++r::l.dropWhile (fun q=>ic q r)
theorem aaZ(l:List ah)(r:ah):(lL l r).Perm (r::l):=by
 have:=List.takeWhile_append_dropWhile (p:=fun q=>ic q r) (l:=l);refine List.perm_middle.trans ?_;rw[this]
theorem xt{a:List ah}(h:a.Pairwise (fun x y=>ic x y=true)):a.Pairwise (fun x y=>¬ (x.aT=y.aT∧x.no=y.no)) :=
 h.imp fun {x y} k e=>by simp only[ic,decide_eq_true_eq] at k;omega
def jS(known:Int)(r:ah):Bool:=decide (r.kind=0∧r.known≤known)
def nA(r q:ah):Bool:=decide (r.eQ=q.aT∧r.fb=q.no)
def b9(known:Int):List ah→List Bool
 | []=>[]
 |r::l=>(!((l.zip (b9 known l)).any fun p=>jS known p.1&&nA p.1 r&&p.2))::b9 known l
def dZ(known:Int):List ah→List Bool×List (Int×Int)
 | []=>([],[])
 |r::l=>((!((dZ known l).2.contains (r.aT,r.no)))::(dZ known l).1,
   if r.kind=0∧((dZ known l).2.contains (r.aT,r.no))=false∧r.known≤known then (r.eQ,r.fb)::(dZ known l).2 else (dZ known l).2)
theorem iF(known:Int):∀ l,(b9 known l).length=l.length
 | []=>rfl
 |r::l=>by simp only[b9,zw0,iF known l]
theorem FO(known:Int):∀ l:List ah,(dZ known l).1=b9 known l∧∀ m n,(dZ known l).2.contains (m,n)=(l.zip (b9 known l)).any fun p=>jS known p.1&&decide (p.1.eQ=m∧p.1.fb=n)&&p.2
 | []=>⟨rfl,fun _ _=>rfl⟩
 |r::l=>by
  obtain ⟨h1,h2⟩:=FO known l;have hb:=h2 r.aT r.no;have e1:(dZ known (r::l)).1=b9 known (r::l):=by
   simp only[dZ,b9,h1,hb,nA]
  refine ⟨e1,fun m n =>?_⟩;simp only[dZ,b9,List.zip_cons_cons,List.any_cons,←h2 m n];have e2:((l.zip (b9 known l)).any fun p=>jS known p.1&&nA p.1 r&&p.2)=(dZ known l).2.contains (r.aT,r.no):=by
   rw[hb];rfl
  rw[e2];generalize (dZ known l).2.contains (r.aT,r.no)=g;by_cases c:r.kind=0∧g=false∧r.known≤known
  ·rw[if_pos c];obtain ⟨c1,rfl,c3⟩:=c;have:jS known r=true:=by simp[jS,c1,c3]
   rw[this,List.contains_cons,Bool.not_false,Bool.true_and,Bool.and_true]
   congr 1
   rw[Bool.eq_iff_iff,beq_iff_eq,decide_eq_true_eq,Prod.mk.injEq];constructor
   ·rintro ⟨k1,k2⟩;exact ⟨k1.symm,k2.symm⟩
   ·rintro ⟨k1,k2⟩;exact ⟨k1.symm,k2.symm⟩
  ·rw[if_neg c];have:(jS known r&&decide (r.eQ=m∧r.fb=n) && !g)=false:=by
    cases g with
    |true=>simp
    |false =>
     have:jS known r=false:=by
      simp only[jS,decide_eq_false_iff_not];exact fun k=>c ⟨k.1,rfl,k.2⟩
     rw[this];rfl
   rw[this,Bool.false_or]
theorem qn{lo hi n:Int} : dP lo hi n=true↔lo≤n∧n≤hi:=by simp[dP]
theorem CX{x:Item} : iQ x=true↔(0≤x.aT∧x.aT≤5)∧0≤x.no∧x.no≤9999:=by simp[iQ,qn]
theorem qK{r:ah}(h:bm r=true):gu r=true:=by
 simp only[bm,zz0] at h;exact h.1
theorem qJ{r:ah}(h:gu r=true):(0≤r.aT∧r.aT≤5)∧(0≤r.no∧r.no≤9999)∧(0≤r.kind∧r.kind≤40)∧(0≤r.ee∧r.ee≤100000)∧(0≤r.known∧r.known≤100000)∧gU r.text=true:=by
 simp only[gu,CX,qn,zz0] at h;exact ⟨h.1.1,h.1.2,h.2.1,h.2.2.1,h.2.2.2.1,h.2.2.2.2⟩
theorem aao{r:ah}(h:bm r=true):(0≤r.eQ∧r.eQ≤5)∧(0≤r.fb∧r.fb≤9999):=by
 simp only[bm,zz0] at h;obtain ⟨_,h⟩:=h;split at h
 ·simp only[o7,CX,zz0] at h;exact h.2.2.1
 ·simp only[decide_eq_true_eq,ah.fw,Item.mk.injEq] at h;omega
theorem tq{r:ah}(h:bm r=true):∀ n∈eP r,0≤n∧n<100000000:=by
 obtain ⟨a1,a2,a3,a4,a5,_⟩:=qJ (qK h);obtain ⟨a6,a7⟩:=aao h;intro n hn;simp only[eP,zw5,List.not_mem_nil,or_false] at hn;rcases hn with rfl | rfl | rfl | rfl | rfl | rfl | rfl <;>omega
theorem aat{t:List UInt8}(h:gU t=true):t.length≤160:=by
 simp only[gU,zz0,decide_eq_true_eq] at h;exact h.1
theorem tu{r:ah}(h:bm r=true):r.text.length≤160:=aat (qJ (qK h)).2.2.2.2.2
theorem x8(r:ah):aK Tryz.prog 34 [enc r] (enc (jb r)):=by
 refine aK.bJ Tryz.func34 Jg KD L7 (t7 rfl) (fun hwf W0 bC E1 =>?_);simp only[zA,Ee,bA];clear hwf;have f1:=yf r.aV;have f2:=mc r.kind 0 40;have f3:=mc r.ee 0 100000;have f4:=mc r.known 0 100000;have f5:=G0 r.text;have f6:=yf r.fw;have no:bm r=false→jb r=80:=fun h=>by simp[jb,h]
 have ye:bm r=true→jb r=0:=fun h=>by simp[jb,h]
 cases q1:iQ r.aV
 ·rw[q1] at f1;rw[no (by simp only[bm,gu,q1,zw6])];have R:=y6 @q1 (y6 @bu ak)
  repeat' ((first |(with_reducible refine .guard (fun hb =>?_) (fun hb =>?_) <;>try simp only[hb])|refine U.au (by decide +kernel) rfl fun K hK =>?_|refine .flat _ (f1) rfl ?_|refine .flat _ (f2) rfl ?_|refine .flat _ (f3) rfl ?_|refine .flat _ (f4) rfl ?_|refine .flat _ (f5) rfl ?_|(refine .aq [0,1,2,30,33,65,69] hK ?_;clear hK K)|(with_reducible refine .done (hK _ ?_);clear hK K)|refine U.of rfl ?_|(with_reducible refine aj.ar (fun h =>?_) (fun h =>?_) <;>try simp only[h])) <;>try simp only[av,R,simprocAttr])
  all_goals clear R
  all_goals rfl
 rw[q1] at f1;cases q2:dP 0 40 r.kind
 ·rw[q2] at f2;rw[no (by simp only[bm,gu,q1,q2,zw6,Bool.and_false])];have R:=y6 @bu ak
  repeat' ((first |(with_reducible refine .guard (fun hb =>?_) (fun hb =>?_) <;>try simp only[hb])|refine U.au (by decide +kernel) rfl fun K hK =>?_|refine .flat _ (f1) rfl ?_|refine .flat _ (f2) rfl ?_|refine .flat _ (f3) rfl ?_|refine .flat _ (f4) rfl ?_|refine .flat _ (f5) rfl ?_|(refine .aq [0,1,2,30,33,65,69] hK ?_;clear hK K)|(with_reducible refine .done (hK _ ?_);clear hK K)|refine U.of rfl ?_|(with_reducible refine aj.ar (fun h =>?_) (fun h =>?_) <;>try simp only[h])) <;>try simp only[av,R,simprocAttr])
  all_goals clear R
  all_goals rfl
 rw[q2] at f2;cases q3:dP 0 100000 r.ee
 ·rw[q3] at f3;rw[no (by simp only[bm,gu,q1,q2,q3,zw6,Bool.and_false])];have R:=y6 @bu ak
  repeat' ((first |(with_reducible refine .guard (fun hb =>?_) (fun hb =>?_) <;>try simp only[hb])|refine U.au (by decide +kernel) rfl fun K hK =>?_|refine .flat _ (f1) rfl ?_|refine .flat _ (f2) rfl ?_|refine .flat _ (f3) rfl ?_|refine .flat _ (f4) rfl ?_|refine .flat _ (f5) rfl ?_|(refine .aq [0,1,2,30,33,65,69] hK ?_;clear hK K)|(with_reducible refine .done (hK _ ?_);clear hK K)|refine U.of rfl ?_|(with_reducible refine aj.ar (fun h =>?_) (fun h =>?_) <;>try simp only[h])) <;>try simp only[av,R,simprocAttr])
  all_goals clear R
  all_goals rfl
 rw[q3] at f3;cases q4:dP 0 100000 r.known
 ·rw[q4] at f4;rw[no (by simp only[bm,gu,q1,q2,q3,q4,zw6,Bool.and_false])];have R:=y6 @bu ak
  repeat' ((first |(with_reducible refine .guard (fun hb =>?_) (fun hb =>?_) <;>try simp only[hb])|refine U.au (by decide +kernel) rfl fun K hK =>?_|refine .flat _ (f1) rfl ?_|refine .flat _ (f2) rfl ?_|refine .flat _ (f3) rfl ?_|refine .flat _ (f4) rfl ?_|refine .flat _ (f5) rfl ?_|(refine .aq [0,1,2,30,33,65,69] hK ?_;clear hK K)|(with_reducible refine .done (hK _ ?_);clear hK K)|refine U.of rfl ?_|(with_reducible refine aj.ar (fun h =>?_) (fun h =>?_) <;>try simp only[h])) <;>try simp only[av,R,simprocAttr])
  all_goals clear R
  all_goals rfl
 rw[q4] at f4;cases q5:gU r.text
 ·rw[q5] at f5;rw[no (by simp only[bm,gu,q1,q2,q3,q4,q5,zw6,Bool.and_false])];have R:=y6 @bu ak
  repeat' ((first |(with_reducible refine .guard (fun hb =>?_) (fun hb =>?_) <;>try simp only[hb])|refine U.au (by decide +kernel) rfl fun K hK =>?_|refine .flat _ (f1) rfl ?_|refine .flat _ (f2) rfl ?_|refine .flat _ (f3) rfl ?_|refine .flat _ (f4) rfl ?_|refine .flat _ (f5) rfl ?_|(refine .aq [0,1,2,30,33,65,69] hK ?_;clear hK K)|(with_reducible refine .done (hK _ ?_);clear hK K)|refine U.of rfl ?_|(with_reducible refine aj.ar (fun h =>?_) (fun h =>?_) <;>try simp only[h])) <;>try simp only[av,R,simprocAttr])
  all_goals clear R
  all_goals rfl
 rw[q5] at f5;have hH:gu r=true:=by simp only[gu,q1,q2,q3,q4,q5,Bool.and_self]
 cases k:(r.kind==0)
 ·cases z:decide (r.fw=⟨0,0⟩)
  ·rw[no (by simp only[bm,hH,Bool.true_and];rw[if_neg (by simpa using k)];exact z)];have R:=y6 @k (y6 @z (y6 @pW (y6 @bu ak)))
   repeat' ((first |(with_reducible refine .guard (fun hb =>?_) (fun hb =>?_) <;>try simp only[hb])|refine U.au (by decide +kernel) rfl fun K hK =>?_|refine .flat _ (f1) rfl ?_|refine .flat _ (f2) rfl ?_|refine .flat _ (f3) rfl ?_|refine .flat _ (f4) rfl ?_|refine .flat _ (f5) rfl ?_|(refine .aq [0,1,2,30,33,65,69] hK ?_;clear hK K)|(with_reducible refine .done (hK _ ?_);clear hK K)|refine U.of rfl ?_|(with_reducible refine aj.ar (fun h =>?_) (fun h =>?_) <;>try simp only[h])) <;>try simp only[av,R,simprocAttr])
   all_goals clear R
   all_goals rfl
  ·rw[ye (by simp only[bm,hH,Bool.true_and];rw[if_neg (by simpa using k)];exact z)];have R:=y6 @k (y6 @z (y6 @pW (y6 @bu ak)))
   repeat' ((first |(with_reducible refine .guard (fun hb =>?_) (fun hb =>?_) <;>try simp only[hb])|refine U.au (by decide +kernel) rfl fun K hK =>?_|refine .flat _ (f1) rfl ?_|refine .flat _ (f2) rfl ?_|refine .flat _ (f3) rfl ?_|refine .flat _ (f4) rfl ?_|refine .flat _ (f5) rfl ?_|(refine .aq [0,1,2,30,33,65,69] hK ?_;clear hK K)|(with_reducible refine .done (hK _ ?_);clear hK K)|refine U.of rfl ?_|(with_reducible refine aj.ar (fun h =>?_) (fun h =>?_) <;>try simp only[h])) <;>try simp only[av,R,simprocAttr])
   all_goals clear R
   all_goals rfl
 have hK:bm r=o7 r:=by simp only[bm,hH,Bool.true_and];rw[if_pos (by simpa using k)]
 simp only[o7] at hK;cases w1:(r.ee==0)
 ·have w1':(r.ee != 0)=true:=by simp[bne,w1]
  rw[no (by rw[hK,w1];rfl)];have R:=y6 @k (y6 @w1' (y6 @iL (y6 @iT (y6 @bu ak))))
  repeat' ((first |(with_reducible refine .guard (fun hb =>?_) (fun hb =>?_) <;>try simp only[hb])|refine U.au (by decide +kernel) rfl fun K hK =>?_|refine .flat _ (f1) rfl ?_|refine .flat _ (f2) rfl ?_|refine .flat _ (f3) rfl ?_|refine .flat _ (f4) rfl ?_|refine .flat _ (f5) rfl ?_|refine .flat _ (f6) rfl ?_|(refine .aq [0,1,2,30,33,65,69] hK ?_;clear hK K)|(with_reducible refine .done (hK _ ?_);clear hK K)|refine U.of rfl ?_|(with_reducible refine aj.ar (fun h =>?_) (fun h =>?_) <;>try simp only[h])) <;>try simp only[av,R,simprocAttr])
  all_goals clear R
  all_goals rfl
 have w1':(r.ee != 0)=false:=by simp[bne,w1]
 cases w2:decide (r.text=[])
 ·rw[no (by rw[hK,w1,w2];rfl)];have R:=y6 @k (y6 @w1' (y6 @w2 (y6 @iL (y6 @iT (y6 @bu ak)))))
  repeat' ((first |(with_reducible refine .guard (fun hb =>?_) (fun hb =>?_) <;>try simp only[hb])|refine U.au (by decide +kernel) rfl fun K hK =>?_|refine .flat _ (f1) rfl ?_|refine .flat _ (f2) rfl ?_|refine .flat _ (f3) rfl ?_|refine .flat _ (f4) rfl ?_|refine .flat _ (f5) rfl ?_|refine .flat _ (f6) rfl ?_|(refine .aq [0,1,2,30,33,65,69] hK ?_;clear hK K)|(with_reducible refine .done (hK _ ?_);clear hK K)|refine U.of rfl ?_|(with_reducible refine aj.ar (fun h =>?_) (fun h =>?_) <;>try simp only[h])) <;>try simp only[av,R,simprocAttr])
  all_goals clear R
  all_goals rfl
 cases w3:iQ r.fw
 ·rw[w3] at f6;rw[no (by rw[hK,w1,w2,w3];rfl)];have R:=y6 @k (y6 @w1' (y6 @w2 (y6 @iL (y6 @iT (y6 @bu ak)))))
  repeat' ((first |(with_reducible refine .guard (fun hb =>?_) (fun hb =>?_) <;>try simp only[hb])|refine U.au (by decide +kernel) rfl fun K hK =>?_|refine .flat _ (f1) rfl ?_|refine .flat _ (f2) rfl ?_|refine .flat _ (f3) rfl ?_|refine .flat _ (f4) rfl ?_|refine .flat _ (f5) rfl ?_|refine .flat _ (f6) rfl ?_|(refine .aq [0,1,2,30,33,65,69] hK ?_;clear hK K)|(with_reducible refine .done (hK _ ?_);clear hK K)|refine U.of rfl ?_|(with_reducible refine aj.ar (fun h =>?_) (fun h =>?_) <;>try simp only[h])) <;>try simp only[av,R,simprocAttr])
  all_goals clear R
  all_goals rfl
 rw[w3] at f6;cases w4:(r.eQ==r.aT)
 ·have w4':(r.eQ != r.aT)=true:=by simp[bne,w4]
  rw[no (by rw[hK,w1,w2,w3,w4];rfl)];have R:=y6 @k (y6 @w1' (y6 @w2 (y6 @w4' (y6 @iL (y6 @iT (y6 @bu ak))))))
  repeat' ((first |(with_reducible refine .guard (fun hb =>?_) (fun hb =>?_) <;>try simp only[hb])|refine U.au (by decide +kernel) rfl fun K hK =>?_|refine .flat _ (f1) rfl ?_|refine .flat _ (f2) rfl ?_|refine .flat _ (f3) rfl ?_|refine .flat _ (f4) rfl ?_|refine .flat _ (f5) rfl ?_|refine .flat _ (f6) rfl ?_|(refine .aq [0,1,2,30,33,65,69] hK ?_;clear hK K)|(with_reducible refine .done (hK _ ?_);clear hK K)|refine U.of rfl ?_|(with_reducible refine aj.ar (fun h =>?_) (fun h =>?_) <;>try simp only[h])) <;>try simp only[av,R,simprocAttr])
  all_goals clear R
  all_goals rfl
 have w4':(r.eQ != r.aT)=false:=by simp[bne,w4]
 cases w5:decide (r.fb<r.no)
 ·have w5':decide (r.fb≥r.no)=true:=by rw[decide_eq_false_iff_not] at w5;exact decide_eq_true (by omega)
  rw[no (by rw[hK,w1,w2,w3,w4,w5];rfl)];have R:=y6 @k (y6 @w1' (y6 @w2 (y6 @w4' (y6 @w5' (y6 @iL (y6 @iT (y6 @bu ak)))))))
  repeat' ((first |(with_reducible refine .guard (fun hb =>?_) (fun hb =>?_) <;>try simp only[hb])|refine U.au (by decide +kernel) rfl fun K hK =>?_|refine .flat _ (f1) rfl ?_|refine .flat _ (f2) rfl ?_|refine .flat _ (f3) rfl ?_|refine .flat _ (f4) rfl ?_|refine .flat _ (f5) rfl ?_|refine .flat _ (f6) rfl ?_|(refine .aq [0,1,2,30,33,65,69] hK ?_;clear hK K)|(with_reducible refine .done (hK _ ?_);clear hK K)|refine U.of rfl ?_|(with_reducible refine aj.ar (fun h =>?_) (fun h =>?_) <;>try simp only[h])) <;>try simp only[av,R,simprocAttr])
  all_goals clear R
  all_goals rfl
 ·have w5':decide (r.fb≥r.no)=false:=by rw[decide_eq_true_eq] at w5;exact decide_eq_false (by omega)
  rw[ye (by rw[hK,w1,w2,w3,w4,w5];rfl)];have R:=y6 @k (y6 @w1' (y6 @w2 (y6 @w4' (y6 @w5' (y6 @iL (y6 @iT (y6 @bu ak)))))))
  repeat' ((first |(with_reducible refine .guard (fun hb =>?_) (fun hb =>?_) <;>try simp only[hb])|refine U.au (by decide +kernel) rfl fun K hK =>?_|refine .flat _ (f1) rfl ?_|refine .flat _ (f2) rfl ?_|refine .flat _ (f3) rfl ?_|refine .flat _ (f4) rfl ?_|refine .flat _ (f5) rfl ?_|refine .flat _ (f6) rfl ?_|(refine .aq [0,1,2,30,33,65,69] hK ?_;clear hK K)|(with_reducible refine .done (hK _ ?_);clear hK K)|refine U.of rfl ?_|(with_reducible refine aj.ar (fun h =>?_) (fun h =>?_) <;>try simp only[h])) <;>try simp only[av,R,simprocAttr])
  all_goals clear R
  all_goals rfl
theorem aco{n:Int}(h:0≤n∧n<256):IntKind.u8.wrap n=n:=by
 simp only[IntKind.wrap,IntKind.bits,IntKind.signed];simp;omega
theorem fe(a b:List UInt8)(h:a.length+b.length≤9223372036854775807):bS .add (enc (aD.of a)) (enc (aD.of b))=some (enc (aD.of (a++b))):=by
 rw[abK _ _ (by rw[aD.dC,aD.dC];exact h)];rfl
def kC(m:Nat):UInt8:=UInt8.ofNat (48+m%10)
theorem YI{m:Nat}(h:10≤m):Lib.itoa (m:Int)=Lib.itoa ((m / 10:Nat):Int)++[kC m]:=by
 rw[Lib.itoa_nonneg,Lib.itoa_nonneg,AE (by omega)];rfl
theorem YJ{m:Nat}(h:m<10):Lib.itoa (m:Int)=[kC m]:=by
 rw[Lib.itoa_nonneg,Lib.decDigits_one (by omega),kC,Nat.mod_eq_of_lt h]
def uE(t:Nat×List UInt8):ab:=al [(0,.int .i64 (t.1:Int)),(3,enc (aD.of (kC t.1::t.2)))] []
theorem xQ(m:Nat)(hm:m≤9223372036854775807):aK Tryz.prog 134 [enc (m:Int)] (enc (aD.of (Lib.itoa (m:Int)))):=by
 refine aK.bJ Tryz.func134 IM Kb LF (t7 rfl) (fun hwf W0 bC E1 =>?_);simp only[y9,DJ,bA];clear hwf;have hd:∀ k:Nat,k≤9223372036854775807→IntKind.i64.wrap (48+(k:Int).tmod 10)=48+(k:Int).tmod 10∧IntKind.u8.wrap (48+(k:Int).tmod 10)=48+(k:Int).tmod 10∧aD.of [UInt8.ofNat (48+(k:Int).tmod 10).toNat]=aD.of [kC k]:=fun k hk=>by
  have e:((k:Int)).tmod 10=((k%10:Nat):Int):=rfl;rw[e];refine ⟨dE _ (by omega) (by omega),aco (by omega),?_⟩;rw[kC,show ((48:Int)+((k%10:Nat):Int)).toNat=48+k%10 by omega]
 obtain ⟨h1,h2,h3⟩:=hd m hm;have R:=y6 @h1 (y6 @h2 (y6 @h3 (y6 @bu ak)))
 repeat' ((first |refine U.au (by decide +kernel) rfl fun K hK =>?_|(refine .aq [0,2,3,11] hK ?_;clear hK K)|(with_reducible refine .done (hK _ ?_);clear hK K)|refine U.of rfl ?_|(with_reducible refine aj.ar (fun h =>?_) (fun h =>?_) <;>try simp only[h])) <;>try simp only[av,R,simprocAttr])
 all_goals clear R
 refine U.loop uE (fun t=>t.1≤9223372036854775807∧Lib.itoa (m:Int)=Lib.itoa (t.1:Int)++t.2) (fun t=>t.1) (m,[]) ⟨hm,by simp⟩ ?_ ?_
 ·simp only[uE];refine bn.bZ ?_ ?_ ?_ ?_ <;>simp[bK,bP,bO,bF,bI,I.only,bt]
 rintro ⟨k,t⟩ ⟨hk,hin⟩;simp only at hk hin;simp only[uE];by_cases hlt:k<10
 ·have hlc:decide ((k:Int)≥10)=false:=decide_eq_false (by omega);rw[YJ hlt] at hin;rw[hin];have R:=y6 @hlc (y6 @bu ak)
  repeat' ((first |refine U.au (by decide +kernel) rfl fun K hK =>?_|(refine .aq [0,2,3,11] hK ?_;clear hK K)|(with_reducible refine .done (hK _ ?_);clear hK K)|refine U.of rfl ?_|(with_reducible refine aj.ar (fun h =>?_) (fun h =>?_) <;>try simp only[h])) <;>try simp only[av,R,simprocAttr])
  all_goals clear R
  all_goals rfl
 ·have hlc:decide ((k:Int)≥10)=true:=decide_eq_true (by omega);have hq:IntKind.i64.wrap ((k:Int).tdiv 10)=((k / 10:Nat):Int):=by
   have e:((k:Int)).tdiv 10=((k / 10:Nat):Int):=rfl;rw[e];exact dE _ (by omega) (by omega)
  obtain ⟨g1,g2,g3⟩:=hd (k / 10) (by omega);rw[YI (m:=k) (by omega),zy3,List.singleton_append] at hin;have hlen:(kC k::t).length≤100:=by
   have h4:=congrArg List.length hin;rw[zz1] at h4;have h5:=Lib.itoa_length_le (m:Int) (by omega) (by omega);omega
  have hadd:=fe [kC (k / 10)] (kC k::t) (by simp only[List.length_singleton];omega);have R:=y6 @hlc (y6 @hq (y6 @g1 (y6 @g2 (y6 @g3 (y6 @hadd (y6 @bu ak))))))
  repeat' ((first |refine U.au (by decide +kernel) rfl fun K hK =>?_|(refine .aq [0,2,3,11] hK ?_;clear hK K)|(with_reducible refine .done (hK _ ?_);clear hK K)|refine U.of rfl ?_|(with_reducible refine aj.ar (fun h =>?_) (fun h =>?_) <;>try simp only[h])) <;>try simp only[av,R,simprocAttr])
  all_goals clear R
  refine ⟨(k / 10,kC k::t),⟨by simp only;omega,hin⟩,by simp only;omega,?_⟩;clear hin hd hadd hlen;refine bn.bZ ?_ ?_ ?_ ?_ <;>simp[bK,bP,bO,bF,bI,I.only,bt]
theorem mU{n:Int}(h:0≤n∧n<100000000):aK Tryz.prog 134 [.int .i64 n] (enc (aD.of (Lib.itoa n)))∧(Lib.itoa n).length≤8:=by
 obtain ⟨m,rfl⟩:=zx0 h.1;exact ⟨xQ m (by omega),qv (k:=7) (by omega)⟩
theorem Gv(r:ah)(hs:r.text.length≤1000000000000)(hn:∀ n∈eP r,0≤n∧n<100000000):aK Tryz.prog 133 [enc r] (enc (aD.of (de r))):=by
 obtain ⟨c1,l1⟩:=mU (hn r.aT (by simp[eP]));obtain ⟨c2,l2⟩:=mU (hn r.no (by simp[eP]));obtain ⟨c3,l3⟩:=mU (hn r.kind (by simp[eP]));obtain ⟨c4,l4⟩:=mU (hn r.ee (by simp[eP]));obtain ⟨c5,l5⟩:=mU (hn r.known (by simp[eP]));obtain ⟨Iq,l6⟩:=mU (hn r.eQ (by simp[eP]));obtain ⟨Ir,l7⟩:=mU (hn r.fb (by simp[eP]));have hb:de r=Lib.itoa r.aT++[32]++Lib.itoa r.no++[32]++Lib.itoa r.kind++[32]++Lib.itoa r.ee++[32]++Lib.itoa r.known++[32]++Lib.itoa r.eQ++[32]++Lib.itoa r.fb++[32]++r.text:=by
  simp[de,dD,eP]
 rw[hb];generalize Lib.itoa r.aT=x1 at *;generalize Lib.itoa r.no=x2 at *;generalize Lib.itoa r.kind=x3 at *;generalize Lib.itoa r.ee=x4 at *;generalize Lib.itoa r.known=x5 at *;generalize Lib.itoa r.eQ=x6 at *;generalize Lib.itoa r.fb=x7 at *;have ls:([32]:List UInt8).length=1:=rfl;have a1:=fe x1 [32] (by omega);have a2:=fe (x1++[32]) x2 (by simp only[zz1,ls];omega);have a3:=fe (x1++[32]++x2) [32] (by simp only[zz1,ls];omega);have a4:=fe (x1++[32]++x2++[32]) x3 (by simp only[zz1,ls];omega);have a5:=fe (x1++[32]++x2++[32]++x3) [32] (by simp only[zz1,ls];omega);have a6:=fe (x1++[32]++x2++[32]++x3++[32]) x4 (by simp only[zz1,ls];omega);have a7:=fe (x1++[32]++x2++[32]++x3++[32]++x4) [32] (by simp only[zz1,ls];omega);have a8:=fe (x1++[32]++x2++[32]++x3++[32]++x4++[32]) x5 (by simp only[zz1,ls];omega);have a9:=fe (x1++[32]++x2++[32]++x3++[32]++x4++[32]++x5) [32] (by simp only[zz1,ls];omega);have b1:=fe (x1++[32]++x2++[32]++x3++[32]++x4++[32]++x5++[32]) x6 (by simp only[zz1,ls];omega);have b2:=fe (x1++[32]++x2++[32]++x3++[32]++x4++[32]++x5++[32]++x6) [32] (by simp only[zz1,ls];omega);have b3:=fe (x1++[32]++x2++[32]++x3++[32]++x4++[32]++x5++[32]++x6++[32]) x7 (by simp only[zz1,ls];omega);have b4:=fe (x1++[32]++x2++[32]++x3++[32]++x4++[32]++x5++[32]++x6++[32]++x7) [32] (by simp only[zz1,ls];omega);have b5:=fe (x1++[32]++x2++[32]++x3++[32]++x4++[32]++x5++[32]++x6++[32]++x7++[32]) r.text (by simp only[zz1,ls];omega);refine aK.bJ Tryz.func133 IL Ka LD (t7 rfl) (fun hwf W0 bC E1 =>?_);simp only[y8,DI,bA];clear hwf hb hn;have R:=y6 @nf (y6 @a1 (y6 @a2 (y6 @a3 (y6 @a4 (y6 @a5 (y6 @a6 (y6 @a7 (y6 @a8 (y6 @a9 (y6 @b1 (y6 @b2 (y6 @b3 (y6 @b4 (y6 @b5 ak))))))))))))))
 repeat' ((first |refine U.au (by decide +kernel) rfl fun K hK =>?_|refine .flat _ (c1) rfl ?_|refine .flat _ (c2) rfl ?_|refine .flat _ (c3) rfl ?_|refine .flat _ (c4) rfl ?_|refine .flat _ (c5) rfl ?_|refine .flat _ (Iq) rfl ?_|refine .flat _ (Ir) rfl ?_|(refine .aq [0,1,2,3] hK ?_;clear hK K)|(with_reducible refine .done (hK _ ?_);clear hK K)|refine U.of rfl ?_|(with_reducible refine aj.ar (fun h =>?_) (fun h =>?_) <;>try simp only[h])) <;>try simp only[av,R,simprocAttr])
 all_goals clear R
 all_goals rfl
theorem FT(s:Int)(l:List UInt8)(c:UInt8):dy s (l++[c])=(257*dy s l+c.toNat+1)%1000003:=by simp[dy]
theorem FQ{s:Int}{c:UInt8}(h:0≤s∧s<1000003):IntKind.i64.wrap (257*s)=257*s∧IntKind.i64.wrap (c.toNat:Int)=c.toNat∧IntKind.i64.wrap (257*s+c.toNat)=257*s+c.toNat∧IntKind.i64.wrap (257*s+c.toNat+1)=257*s+c.toNat+1 ∧
  (257*s+(c.toNat:Int)+1).tmod 1000003=(257*s+c.toNat+1)%1000003:=by
 have hc:=c.toNat_lt;exact ⟨dE _ (by omega) (by omega),dE _ (by omega) (by omega),dE _ (by omega) (by omega),dE _ (by omega) (by omega),Int.tmod_eq_emod_of_nonneg (by omega)⟩
theorem uU{r:ah}{k:Nat}(ht:r.text.length≤k)(hn:∀ n∈eP r,0≤n∧n<100000000):(de r).length≤63+k:=by
 have h:∀ l:List Int,(∀ x∈l,0≤x∧x<100000000)→(dD l).length≤9*l.length:=by
  intro l
  induction l with
  |nil=>intro _;simp[dD]
  |cons x l ih =>
   intro h;have h1:=ih fun y hy=>h y (by simp[hy]);have h2:=qv (k:=7) (n:=x) (by have:=h x (by simp);omega);simp only[dD] at h1;simp only[dD,List.flatMap_cons,zz1,zw0,zx9];omega
 have:=h _ hn;have h4:(eP r).length=7:=rfl;rw[de,zz1];omega
theorem pH(s:Int)(hs:0≤s∧s<1000003)(r:ah)(hr:bm r=true):aK Tryz.prog 81 [enc s,enc r] (.tuple [enc (aD.of (dR s r)),enc (dy s (de r))]):=by
 have ht:=tu hr;have hn:=tq hr;have hbl:=uU ht hn;have hF:=Gt r (by omega);have hsum:=fun l=>pw hs l;simp only[dR];generalize hb:de r=b at *;have hsb:=xd b;refine aK.bJ Tryz.func81 JA KW Mr (t7 rfl) (fun hwf W0 bC E1 =>?_);simp only[zO,EA,bA,zz3];clear hwf;have R:=y6 @hsb (y6 @bu (y6 @fo ak))
 repeat' ((first |refine ba.eT rfl fun m =>?_|refine U.au (by decide +kernel) rfl fun K hK =>?_|refine .flat _ (hF) rfl ?_|(refine .aq [0,1,3,4,5,6,8,12,13,14,15] hK ?_;clear hK K)|(with_reducible refine .done (hK _ ?_);clear hK K)|refine U.of rfl ?_|(with_reducible refine aj.ar (fun h =>?_) (fun h =>?_) <;>try simp only[h])) <;>try simp only[av,R,simprocAttr])
 all_goals clear R
 refine U.loop (fun i:Nat=>al [(0,.int .i64 (dy s (b.take i))),(3,.ptr 3 []),(6,enc (aD.of b)),(12,enc b),(13,.int .i64 b.length),(14,.int .i64 i)] [(3,.box (enc r))]) (fun i=>i≤b.length) (fun i=>b.length-i) 0 (zw7 _) ?_ ?_
 ·refine bn.nj [12] 12 (x:=.view 12 [] 1 0 b.length) (y:=enc b) rfl (A6 rfl) ?_ ?_ ?_ ?_ ?_ <;>simp[dw,bF,bK,bP,bO,aw,il,bI,aG,ai.only,I.only,bt]
  all_goals rfl
 intro i hi;have hst:=hsum (b.take i);by_cases hlt:i<b.length
 ·have hlc:=eB hlt;have he:=fun A=>dQ (A:=A) 1 hlt rfl;have hw:=dU (i:=i) (by omega);have hsn:=FT s (b.take i) b[i];rw[←zx7 hlt] at hsn;generalize b[i]=c at *;generalize dy s (b.take i)=z at *;obtain ⟨g1,g2,g3,g4,g5⟩:=FQ (c:=c) hst;have R:=y6 @hlc (y6 @he (y6 @hw (y6 @g1 (y6 @g2 (y6 @g3 (y6 @g4 (y6 @g5 (y6 @rf (y6 @bu ak)))))))))
  repeat' ((first |refine U.au (by decide +kernel) rfl fun K hK =>?_|(refine .aq [0,1,3,4,5,6,8,12,13,14,15] hK ?_;clear hK K)|(with_reducible refine .done (hK _ ?_);clear hK K)|refine U.of rfl ?_|(with_reducible refine aj.ar (fun h =>?_) (fun h =>?_) <;>try simp only[h])) <;>try simp only[av,R,simprocAttr])
  all_goals clear R
  refine ⟨i+1,by omega,by omega,?_⟩;rw[hsn];refine bn.bZ ?_ ?_ ?_ ?_ <;>simp[bK,bP,bO,bF,aw,bI,cL,I.only,ai.only,bt]
  all_goals rfl
 ·have hlc:=eX hlt;have hge:i=b.length:=by omega
  subst hge;rw[List.take_length] at hst ⊢;generalize dy s b=z at *;obtain ⟨q,rfl⟩:=zx0 hst.1;have hz:=Gu (q:Int);have hzl:=qv (k:=7) (n:=(q:Int)) (by omega);rw[vU] at hz;have a1:=fe (Lib.itoa (q:Int)) [32] (by simp;omega);have a2:=fe (Lib.itoa (q:Int)++[32]) b (by simp;omega);have a3:=fe (Lib.itoa (q:Int)++[32]++b) [10] (by simp;omega);have e:dD [(q:Int)]=Lib.itoa (q:Int)++[32]:=by simp[dD]
  rw[e];have R:=y6 @hlc (y6 @nf (y6 @pX (y6 @a1 (y6 @a2 (y6 @a3 ak)))))
  repeat' ((first |refine U.au (by decide +kernel) rfl fun K hK =>?_|refine .flat _ (hz) rfl ?_|(refine .aq [0,1,3,4,5,6,8,12,13,14,15] hK ?_;clear hK K)|(with_reducible refine .done (hK _ ?_);clear hK K)|refine U.of rfl ?_|(with_reducible refine aj.ar (fun h =>?_) (fun h =>?_) <;>try simp only[h])) <;>try simp only[av,R,simprocAttr])
  all_goals clear R
  all_goals rfl
theorem GZ(s:Int)(hs:0≤s∧s<1000003)(r:ah)(hr:bm r=true):aK Tryz.prog 83 [enc s,enc r] (.tuple [enc (aD.of (dR s r)),enc (dy s (de r))]):=by
 have ht:=tu hr;have hn:=tq hr;have hbl:=uU ht hn;have hF:=Gv r (by omega) hn;have hsum:=fun l=>pw hs l;simp only[dR];generalize hb:de r=b at *;have hl:=pn b;refine aK.bJ Tryz.func83 JC KY Mt (t7 rfl) (fun hwf W0 bC E1 =>?_);simp only[zQ,EC,bA,zz3];clear hwf;have R:=y6 @bu ak
 repeat' ((first |refine U.au (by decide +kernel) rfl fun K hK =>?_|refine .flat _ (hF) rfl ?_|(refine .aq [0,1,3,4,5,6,7,13] hK ?_;clear hK K)|(with_reducible refine .done (hK _ ?_);clear hK K)|refine U.of rfl ?_|(with_reducible refine aj.ar (fun h =>?_) (fun h =>?_) <;>try simp only[h])) <;>try simp only[av,R,simprocAttr])
 all_goals clear R
 refine U.loop (fun i:Nat=>al [(0,.int .i64 (dy s (b.take i))),(3,.ptr 3 []),(6,enc (aD.of b)),(7,.int .i64 i)] [(3,.box (enc r))]) (fun i=>i≤b.length) (fun i=>b.length-i) 0 (zw7 _) ?_ ?_
 ·refine bn.bZ ?_ ?_ ?_ ?_ <;>simp[bK,bP,bO,bF,aw,bI,cL,I.only,ai.only,bt]
  all_goals rfl
 intro i hi;have hst:=hsum (b.take i);by_cases hlt:i<b.length
 ·have hlc:=eB hlt;have he:=Fv b hlt;have hw:=dU (i:=i) (by omega);have hsn:=FT s (b.take i) b[i];rw[←zx7 hlt] at hsn;generalize b[i]=c at *;generalize dy s (b.take i)=z at *;obtain ⟨g1,g2,g3,g4,g5⟩:=FQ (c:=c) hst;have R:=y6 @hl (y6 @hlc (y6 @he (y6 @hw (y6 @g1 (y6 @g2 (y6 @g3 (y6 @g4 (y6 @g5 (y6 @bu ak)))))))))
  repeat' ((first |refine U.au (by decide +kernel) rfl fun K hK =>?_|(refine .aq [0,1,3,4,5,6,7,13] hK ?_;clear hK K)|(with_reducible refine .done (hK _ ?_);clear hK K)|refine U.of rfl ?_|(with_reducible refine aj.ar (fun h =>?_) (fun h =>?_) <;>try simp only[h])) <;>try simp only[av,R,simprocAttr])
  all_goals clear R
  refine ⟨i+1,by omega,by omega,?_⟩;rw[hsn];refine bn.bZ ?_ ?_ ?_ ?_ <;>simp[bK,bP,bO,bF,aw,bI,cL,I.only,ai.only,bt]
  all_goals rfl
 ·have hlc:=eX hlt;have hge:i=b.length:=by omega
  subst hge;rw[List.take_length] at hst ⊢;generalize dy s b=z at *;obtain ⟨q,rfl⟩:=zx0 hst.1;have hz:=xQ q (by omega);have hzl:=qv (k:=7) (n:=(q:Int)) (by omega);have a1:=fe (Lib.itoa (q:Int)) [32] (by simp;omega);have a2:=fe (Lib.itoa (q:Int)++[32]) b (by simp;omega);have a3:=fe (Lib.itoa (q:Int)++[32]++b) [10] (by simp;omega);have e:dD [(q:Int)]=Lib.itoa (q:Int)++[32]:=by simp[dD]
  rw[e];have R:=y6 @hl (y6 @hlc (y6 @nf (y6 @pX (y6 @a1 (y6 @a2 (y6 @a3 ak))))))
  repeat' ((first |refine U.au (by decide +kernel) rfl fun K hK =>?_|refine .flat _ (hz) rfl ?_|(refine .aq [0,1,3,4,5,6,7,13] hK ?_;clear hK K)|(with_reducible refine .done (hK _ ?_);clear hK K)|refine U.of rfl ?_|(with_reducible refine aj.ar (fun h =>?_) (fun h =>?_) <;>try simp only[h])) <;>try simp only[av,R,simprocAttr])
  all_goals clear R
  all_goals rfl
def kJ(s:Int)(r:ah):List UInt8×Int×Int:=if dP 0 1000002 s=false then ([],0,1) else if bm r=false then ([],0,80) else (dR s r,dy s (de r),0)
theorem Y8{s:Int}{r:ah}(h:dP 0 1000002 s=false):kJ s r=([],0,1):=by rw[kJ,if_pos h]
theorem Cv{s:Int}{r:ah}(h:dP 0 1000002 s=true)(h2:bm r=false):kJ s r=([],0,80):=by rw[kJ,h,if_neg (by decide),if_pos h2]
theorem Cw{s:Int}{r:ah}(h:dP 0 1000002 s=true)(h2:bm r=true):kJ s r=(dR s r,dy s (de r),0):=by rw[kJ,h,h2,if_neg (by decide),if_neg (by decide)]
theorem xZ(s:Int)(r:ah):aK Tryz.prog 29 [enc s,enc r] (.tuple [enc (aD.of (kJ s r).1),enc (kJ s r).2.1,enc (kJ s r).2.2]):=by
 refine aK.bJ Tryz.func29 Je KB L5 (t7 rfl) (fun hwf W0 bC E1 =>?_);simp only[zx,Ec,bA,zz3];clear hwf;have f1:=yd s;have f2:=pG r;cases q1:dP 0 1000002 s
 ·rw[q1] at f1;rw[Y8 q1];have R:=ak
  repeat' ((first |refine U.au (by decide +kernel) rfl fun K hK =>?_|refine .flat _ (f1) rfl ?_|(refine .aq [0,1,3,4,5,6,7,8,9,13] hK ?_;clear hK K)|(with_reducible refine .done (hK _ ?_);clear hK K)|refine U.of rfl ?_|(with_reducible refine aj.ar (fun h =>?_) (fun h =>?_) <;>try simp only[h])) <;>try simp only[av,R,simprocAttr])
  all_goals clear R
  all_goals rfl
 cases q2:bm r
 ·rw[q1] at f1;rw[q2] at f2;rw[Cv q1 q2];have R:=ak
  repeat' ((first |refine U.au (by decide +kernel) rfl fun K hK =>?_|refine .flat _ (f1) rfl ?_|refine .flat _ (f2) rfl ?_|(refine .aq [0,1,3,4,5,6,7,8,9,13] hK ?_;clear hK K)|(with_reducible refine .done (hK _ ?_);clear hK K)|refine U.of rfl ?_|(with_reducible refine aj.ar (fun h =>?_) (fun h =>?_) <;>try simp only[h])) <;>try simp only[av,R,simprocAttr])
  all_goals clear R
  all_goals rfl
 have f3:=pH s (by have:=qn.1 q1;omega) r q2;rw[q1] at f1;rw[q2] at f2;rw[Cw q1 q2];have R:=ak
 repeat' ((first |refine U.au (by decide +kernel) rfl fun K hK =>?_|refine .flat _ (f1) rfl ?_|refine .flat _ (f2) rfl ?_|refine .lead _ (f3) ?_|(refine .aq [0,1,3,4,5,6,7,8,9,13] hK ?_;clear hK K)|(with_reducible refine .done (hK _ ?_);clear hK K)|refine U.of rfl ?_|(with_reducible refine aj.ar (fun h =>?_) (fun h =>?_) <;>try simp only[h])) <;>try simp only[av,R,simprocAttr])
 all_goals clear R
 all_goals rfl
def wV:bh:=(.seq (.bW none UY) (.seq (.seq (.bW none U7) (.cond (.t 20) (.bW none BK) .skip)) (.seq (.bW none U8) (.seq (.bW none U9) (.seq (.bW none BL) (.seq (.seq (.bW none Va) (.block 0 (.loop (.seq (.bW none Vb) (.seq (.cond (.t 29) .skip (.exit 0)) (.seq (.block 1 (.seq (.bW none Vc) (.bW none BI))) (.bW none UZ))))))) (.seq (.bW none U0) (.seq (.seq (.bW none U4) (.cond (.t 59) (.bW none BJ) .skip)) (.seq (.bW none U5) (.seq (.seq (.bW none U6) (.cond (.t 75) (.bW none vC) .skip)) (.seq (.bW M8 vD) .ret)))))))))))
theorem Np:Tryz.f70.body.bind (vd Tryz.prog Tryz.f70.ntmps)=some (.bW none BH,124,[4,5,6],13,wV):=by kernel_rfl
def gY(s:Int)(t:List UInt8):ah×Int×Bool:=match ep bm s t with
 |some (r,n)=>(r,n,true)
 |none=>(default,0,false)
def gW(r:ah)(n:Int)(b:Bool):List (Nat×ai):=[(1900004,.box (enc r)),(1900005,.box (.int .i64 n)),(1900006,.box (.bool b))]
def kZ(x:ah×Int×Bool):I:=.tuple [enc x.1,.int .i64 x.2.1,.bool x.2.2]
def qN(s:Int)(t:List UInt8):cd:=fun r os'=>r=kZ (gY s t)∧os'=gW (gY s t).1 (gY s t).2.1 (gY s t).2.2
def nM:List (Nat×Nat):=[(1900004,4),(1900005,5),(1900006,6)]
def wD:List (Nat×ai):=[(6,.box (.bool false)),(5,.box (.int .i64 0)),(4,.box (enc (default:ah)))]
def nz:List Nat:=[1900004,1900005,1900006]
def n9:List I:=[enc (default:ah),.int .i64 0,.bool false]
theorem tU(m:Nat):bo nM m=if m=1900004 then 4 else if m=1900005 then 5 else if m=1900006 then 6 else m:=rfl
theorem sW{r:ah}{n:Int}{b:Bool}{m:Nat}{y:ai}(h:aG (gW r n b) m=some y):(m=1900004∧y=.box (enc r))∨(m=1900005∧y=.box (.int .i64 n))∨(m=1900006∧y=.box (.bool b)):=by
 simp only[gW,aG] at h;split at h
 ·rename_i e;cases h;exact .inl ⟨e,rfl⟩
 split at h
 ·rename_i e;cases h;exact .inr (.inl ⟨e,rfl⟩)
 split at h
 ·rename_i e;cases h;exact .inr (.inr ⟨e,rfl⟩)
 ·cases h
theorem lF{r:ah}{n:Int}{b:Bool}{m:Nat} : aw (gW r n b) m=true↔m=1900004∨m=1900005∨m=1900006:=by
 constructor
 ·intro h;cases hy:aG (gW r n b) m with
  |none=>rw[aw,hy] at h;cases h
  |some y=>rcases sW hy with ⟨h,_⟩ | ⟨h,_⟩ | ⟨h,_⟩ <;>simp[h]
 ·rintro (rfl | rfl | rfl) <;>rfl
theorem nB{r:ah}{n:Int}{b:Bool}{m:Nat}{y:ai}(h:aG (gW r n b) m=some y)(p:Nat→Bool):y.only p=true∧y.dO=true∧y.aR (bo nM)=y:=by
 rcases sW h with ⟨_,rfl⟩ | ⟨_,rfl⟩ | ⟨_,rfl⟩
 ·exact ⟨bt _ _,rfl,by simp only[ai.aR,gP]⟩
 ·exact ⟨rfl,rfl,rfl⟩
 ·exact ⟨rfl,rfl,rfl⟩
theorem Yv:eF nM (gW default 0 false) wD:=by
 refine ⟨fun m y hy=>⟨?_,(nB hy _).1,(nB hy (fun _=>true)).2.1⟩,fun m m' hm hm' e =>?_⟩
 ·rw[(nB hy (fun _=>true)).2.2];rcases sW hy with ⟨rfl,rfl⟩ | ⟨rfl,rfl⟩ | ⟨rfl,rfl⟩ <;>rfl
 ·have k1:=lF.1 hm;have k2:=lF.1 hm';rw[tU,tU] at e
  (repeat' split at e) <;>omega
theorem HW(s:Int)(t:List UInt8):∀ r os',qN s t r os'→dj false nM (gW default 0 false) wD r os':=by
 rintro r os' ⟨rfl,rfl⟩;refine ⟨fun m y hy=>⟨(nB hy _).1,(nB hy (fun _=>true)).2.1,fun h=>by cases h⟩,fun m m' hm hm' e =>?_,fun m hm=>lF.2 (lF.1 hm),fun m hm hno =>?_,⟨?_,fun h=>by cases h⟩⟩
 ·have k1:=lF.1 hm;have k2:=lF.1 hm';rw[tU,tU] at e
  (repeat' split at e) <;>omega
 ·rw[lF.2 (lF.1 hm)] at hno;cases hno
 ·simp only[kZ,I.only,I.cB,bt,Bool.and_self]
theorem HV(s:Int)(t:List UInt8):∀ r os',qN s t r os'→∃ osF,r.flat=true∧r.aR (bo nM)=r∧(∀ m z,aG osF m=some z→aG (cD nM os'++wD) m=some z∧z.only (aw osF)=true∧z.dO=true)∧(r=kZ (gY s t)∧osF=[]):=by
 rintro r os' ⟨rfl,rfl⟩;refine ⟨[],?_,?_,fun m z hz=>by simp[aG] at hz,rfl,rfl⟩
 ·rfl
 ·simp only[kZ,I.aR,I.cP,gP]
theorem E7{r:ah}{n:Int}{b:Bool}{post:cd}{A:ab}(hp:post (kZ (r,n,b)) (gW r n b))(t4:A.t 4=.ptr 1900004 [])(t5:A.t 5=.ptr 1900005 [])(t6:A.t 6=.ptr 1900006 [])(o4:A.o 1900004=some (.box (enc r)))(o5:A.o 1900005=some (.box (.int .i64 n)))(o6:A.o 1900006=some (.box (.bool b))) :
  iZ tH post A:=by
 refine ⟨gW r n b,[enc r,.int .i64 n,.bool b],fun m z hz=>⟨?_,(nB hz _).1,(nB hz (fun _=>true)).2.1⟩,⟨⟨enc r,?_,.inl ⟨rfl,eW _,bt _ _⟩⟩,⟨.int .i64 n,?_,.inl ⟨rfl,rfl,rfl⟩⟩,⟨.bool b,?_,.inl ⟨rfl,rfl,rfl⟩⟩,trivial⟩,hp⟩
 ·rcases sW hz with ⟨rfl,rfl⟩ | ⟨rfl,rfl⟩ | ⟨rfl,rfl⟩ <;>assumption
 ·simp only[nF,t4,b6,o4];rfl
 ·simp only[nF,t5,b6,o5];rfl
 ·simp only[nF,t6,b6,o6];rfl
theorem o9{s:Int}{t:List UInt8}(hn:ep bm s t=none){A:ab}{x:ah}{n:Int}{b:Bool}(t4:A.t 4=.ptr 1900004 [])(t5:A.t 5=.ptr 1900005 [])(t6:A.t 6=.ptr 1900006 [])(o4:A.o 1900004=some (.box (enc x)))(o5:A.o 1900005=some (.box (.int .i64 n)))(o6:A.o 1900006=some (.box (.bool b))) :
  qQ tH (qN s t) jV nz n9 (.panic jV) A:=by
 refine ⟨rfl,⟨⟨_,o4,(eh _).trans (eh _).symm⟩,⟨_,o5,rfl⟩,⟨_,o6,rfl⟩,trivial⟩,?_⟩;refine E7 (r:=default) (n:=0) (b:=false) ?_ t4 t5 t6 ?_ ?_ ?_
 ·show _∧_
  rw[gY,hn];exact ⟨rfl,rfl⟩
 ·simp[nz,n9,nP,ab.aN]
 ·simp[nz,n9,nP,ab.aN]
 ·simp[nz,n9,nP,ab.aN]
theorem De{Q:Exit→ab→Prop}{ts:List (Nat×I)}{os0:List (Nat×ai)}{u:List UInt8}{v:I}(hv:v=enc (aD.of u))(hlen:u.length≤281474976710656)(h:∀ w t,dz 32 u=some (w,t)→gD w=none)(hq:Q (.panic jV) (al ts os0)):pK Tryz.prog Q 126 [v] (al ts os0):=by
 subst hv;exact .mk false [] [] [enc (aD.of u)] jV _ (Gq (aD.of u) (by rw[aD.dC];exact hlen) (by rw[aD.dC];exact h)) ⟨fun m x h=>by simp[aG] at h,fun m m' h=>by simp[aw,aG] at h⟩ ⟨.inl ⟨(gP _ _).symm,bt _ _,eW _⟩,trivial⟩
  (fun os' h=>by subst h;exact ⟨fun m x h=>by simp[aG] at h,fun m m' h=>by simp[aw,aG] at h,fun m h=>h,fun m h=>by simp[aw,aG] at h,⟨rfl,fun h=>by cases h⟩⟩) (fun os' h=>by subst h;exact hq)
def dK(l:List Int):ew 7 Int:=⟨(l++List.replicate 7 0).take 7,by simp⟩
theorem aaD{l:List Int}(h:l.length<7)(v:Int):(⟨(dK l).l.set l.length v,by simp[(dK l).h]⟩:ew 7 Int)=dK (l++[v]):=by
 simp only[dK,ew.mk.injEq];refine List.ext_getElem (by simp) fun i h1 h2 =>?_;simp only[zy0,zz1,List.length_replicate,List.length_set,zw0,zx9] at h1 h2;simp only[List.getElem_set,List.getElem_take,List.getElem_append];by_cases e:l.length=i
 ·subst e;simp
 ·by_cases k:i<l.length
  ·rw[if_neg e,dif_pos k,dif_pos (by simp;omega),dif_pos k]
  ·rw[if_neg e,dif_neg k,dif_neg (by simp;omega)];simp only[List.getElem_replicate]
theorem AM:I.agg [.int .i64 0,.int .i64 0,.int .i64 0,.int .i64 0,.int .i64 0,.int .i64 0,.int .i64 0]=enc (dK []):=rfl
theorem aaC{l:List Int}(h:l.length=7)(k:Nat):(dK l).g k=l.getD k 0:=by
 simp only[ew.g,dK];rw[List.take_left' h]
theorem abQ{l:List Int}(h:l.length<7)(v:Int):(enc (dK l):I).dm [l.length] (.int .i64 v)=enc (dK (l++[v])):=by
 have h1:(enc (dK l):I).c7=some ((dK l).l.map enc):=rfl;rw[xg,h1];simp only[pq,BN (dK l) h,ri,ff];rw[←aaD h]
 change I.agg _=I.agg (((dK l).l.set l.length v).map enc)
 rw[List.map_set];rfl
theorem ab5{A:ab}{n:Nat}{l:List Int}(h:l.length<7){v u:Int}{rest:List aC} : dT A none n [l.length] (enc (dK l)) (.int .i64 v) rest (some (.int .i64 u))=aA rest (A.aN n (.box (enc (dK (l++[v]))))):=by
 rw[fg (s:=none) (v:=.int .i64 v) (old:=.int .i64 u) rfl rfl rfl,abQ h]
theorem Cd(t:List UInt8):Lib.hasSuffix t [10]=decide (t.getLast?=some 10):=by
 have:Lib.hasSuffix t [10]=true↔t.getLast?=some 10:=by
  rw[Lib.hasSuffix,List.isSuffixOf_iff_suffix];constructor
  ·rintro ⟨x,rfl⟩;simp
  ·intro h;obtain ⟨x,rfl⟩:=List.getLast?_eq_some_iff.1 h;exact ⟨x,rfl⟩
 cases h:Lib.hasSuffix t [10]
 ·rw[h] at this;exact (decide_eq_false fun k=>by simpa using this.2 k).symm
 ·rw[h] at this;exact (decide_eq_true (this.1 rfl)).symm
theorem acn{t:List UInt8}(h:t.getLast?=some 10):Lib.trimSuffix t [10]=t.dropLast:=by
 rw[Lib.trimSuffix,Cd,decide_eq_true h,if_pos rfl,List.dropLast_eq_take];rfl
theorem ev:(∀ A n b rest (q r:ah),dT A (some 8) n [] b (enc q) rest (some (enc r))=aA rest (A.aN n (.box (enc q))))∧(∀ A n b rest (q:ah) v,v=enc q→dT A (some 8) n [] b v rest (some (enc (default:ah)))=aA rest (A.aN n (.box (enc q)))) :=
 ⟨fun A n b rest q r=>by rw[fg (eW _) (by rw[ik];rfl) ((eh _).trans (eh _).symm),ff],fun A n b rest q v h=>by rw[h,fg (eW _) (by rw[ik];rfl) ((eh _).trans (eh _).symm),ff]⟩
theorem dY:I.agg [.agg [.int .i64 0,.int .i64 0],.int .i64 0,.int .i64 0,.int .i64 0,.agg [.int .i64 0,.int .i64 0],.ay ⟨#[]⟩]=enc (default:ah):=rfl
theorem oq:(∀ x y,fG [.int .i64 0,.int .i64 0] [(0,.int .i64 x),(1,.int .i64 y)]=some [.int .i64 x,.int .i64 y]) ∧
  (∀ (x1 x2 n1 n2 n3 y1 y2:Int) (u:List UInt8),fG [.agg [.int .i64 0,.int .i64 0],.int .i64 0,.int .i64 0,.int .i64 0,.agg [.int .i64 0,.int .i64 0],.ay ⟨#[]⟩] [(0,.agg [.int .i64 x1,.int .i64 x2]),(1,.int .i64 n1),(2,.int .i64 n2),(3,.int .i64 n3),(4,.agg [.int .i64 y1,.int .i64 y2]),(5,enc (aD.of u))]=some [.agg [.int .i64 x1,.int .i64 x2],.int .i64 n1,.int .i64 n2,.int .i64 n3,.agg [.int .i64 y1,.int .i64 y2],enc (aD.of u)]) :=
 ⟨fun _ _=>rfl,fun _ _ _ _ _ _ _ _=>rfl⟩
theorem rn:(∀ A n b rest (q r:Int),dT A none n [] b (.int .i64 q) rest (some (.int .i64 r))=aA rest (A.aN n (.box (.int .i64 q))))∧(∀ A n b rest (q r:Bool),dT A none n [] b (.bool q) rest (some (.bool r))=aA rest (A.aN n (.box (.bool q)))) :=
 ⟨fun A n b rest q r=>by rw[fg (s:=none) (v:=.int .i64 q) (old:=.int .i64 r) rfl rfl rfl,ff],fun A n b rest q r=>by rw[fg (s:=none) (v:=.bool q) (old:=.bool r) rfl rfl rfl,ff]⟩
theorem NO{n0:Int}{l:List Int}{u:List UInt8}(h:l.length=7):I.agg [.agg [.int .i64 ((dK l).g 0),.int .i64 ((dK l).g 1)],.int .i64 ((dK l).g 2),.int .i64 ((dK l).g 3),.int .i64 ((dK l).g 4),.agg [.int .i64 ((dK l).g 5),.int .i64 ((dK l).g 6)],enc (aD.of u)]=enc (jJ (n0::l) u):=by
 simp only[aaC h];rfl
theorem aa7{s n0:Int}{t u:List UInt8}{l:List Int}(h:t.getLast?=some 10)(hp:ju gD 8 t.dropLast=some (n0::l,u)) :
  ep bm s t=if bm (jJ (n0::l) u)=true∧dR s (jJ (n0::l) u)=t∧n0=dy s (de (jJ (n0::l) u)) then some (jJ (n0::l) u,dy s (de (jJ (n0::l) u))) else none:=by
 rw[ep,if_pos h,hp,Option.bind_some];generalize jJ (n0::l) u=r;simp only[List.headD_cons,oE];by_cases a:bm r=true
 ·by_cases b:dR s r=t
  ·by_cases c:n0=dy s (de r)
   ·simp[a,b,c]
   ·simp[a,b,c]
  ·simp[b]
 ·simp[a]
structure yl where
 n0:Int
 l:List Int
 u:List UInt8
def uG(s:Int)(t:List UInt8)(x:yl):ab:=al [(0,enc s),(1,enc (aD.of t)),(4,.ptr 1900004 []),(5,.ptr 1900005 []),(6,.ptr 1900006 []),(7,enc (aD.of x.u)),(9,enc x.n0),(10,.ptr 10 []),(28,.int .i64 x.l.length)] ((10,.box (enc (dK x.l)))::gW default 0 false)
def Gg(t:List UInt8)(x:yl):Prop:=x.l.length≤7∧x.u.length≤t.length∧ju gD 8 t.dropLast=(ju gD (7-x.l.length) x.u).map fun p=>(x.n0::x.l++p.1,p.2)
theorem FZ{f:List UInt8→Option Int}{k:Nat}{u w v:List UInt8}{n:Int}(h1:dz 32 u=some (w,v))(h2:f w=some n):ju f (k+1) u=(ju f k v).map fun p=>(n::p.1,p.2):=by
 rw[ju,h1];simp only[h2]
theorem FY{f:List UInt8→Option Int}{k:Nat}{u:List UInt8}(h:∀ w t,dz 32 u=some (w,t)→f w=none):ju f (k+1) u=none:=by
 rw[ju];cases h1:dz 32 u with
 |none=>rfl
 |some p=>simp only[h p.1 p.2 h1]
theorem AD(u:List UInt8):(∃ w v n,dz 32 u=some (w,v)∧gD w=some n∧v.length≤u.length)∨∀ w t,dz 32 u=some (w,t)→gD w=none:=by
 cases h1:dz 32 u with
 |none=>exact .inr fun w t h=>by cases h
 |some p =>
  obtain ⟨w,v⟩:=p;cases h2:gD w with
  |none=>exact .inr fun w' t' h=>by cases h;exact h2
  |some n=>exact .inl ⟨w,v,n,rfl,h2,by have:=r8 h1;simp only at this;omega⟩
theorem abn{s:Int}(hs:0≤s∧s<1000003){t:List UInt8}(ht:t.length≤281474976710656)(W:World)(D:aJ)(E:aO)(n:Nat)(d:Deferred) :
  U ⟨Tryz.prog,W,D,n,bU E,E,e8,none,some [d]⟩ wV (qQ tH (qN s t) jV nz n9) (al [(0,enc s),(1,enc (aD.of t)),(4,.ptr 1900004 []),(5,.ptr 1900005 []),(6,.ptr 1900006 [])] (gW default 0 false)):=by
 have hC:=Gp (aD.of t) (aD.of [10]);rw[aD.dC,aD.dC,Cd] at hC;simp only[wV,gW];by_cases hl:t.getLast?=some 10
 ·have hd:decide (t.getLast?=some 10)=true:=decide_eq_true hl;rw[hd,acn hl] at hC;have hT:ep bm s t=(ju gD 8 t.dropLast).bind fun p=>(oE bm s t (jJ p.1 p.2)).bind fun q=>if p.1.headD 0=q.2 then some q else none:=by rw[ep,if_pos hl]
  have hlt:t.dropLast.length≤t.length:=by simp
  generalize hu0:t.dropLast=u0 at *;rcases AD u0 with ⟨cS,v0,m0,hw,ho,hv⟩ | hno
  rotate_left
  ·have hn:ep bm s t=none:=by rw[hT,FY (k:=7) hno];rfl
   have R:=y6 @hd (y6 @pX (y6 @j7 (y6 @AM (y6 @bu ak))))
   repeat' ((first |(with_reducible refine .guard (fun hb =>?_) (fun hb =>?_) <;>try simp only[hb])|(refine U.lO (gs:=BL) (gs1:=[_]) rfl fun K hK =>?_)|refine U.au (by decide +kernel) rfl fun K hK =>?_|refine .flat _ (hC) rfl ?_|(refine .aq [0,1,4,5,6,7,8,9,10,11,12,20,28,29,59,75] hK ?_;clear hK K)|(with_reducible refine .done (hK _ ?_);clear hK K)|refine U.of rfl ?_|(with_reducible refine aj.ar (fun h =>?_) (fun h =>?_) <;>try simp only[h])) <;>try simp only[av,R,simprocAttr])
   all_goals clear R
   exact .call (De rfl (by omega) hno (o9 hn rfl rfl rfl rfl rfl rfl))
  have h126:=xO (aD.of u0) (by rw[aD.dC];omega) cS v0 m0 (by rw[aD.dC];exact hw) ho;have R:=y6 @hd (y6 @pX (y6 @j7 (y6 @AM (y6 @bu ak))))
  repeat' ((first |(with_reducible refine .guard (fun hb =>?_) (fun hb =>?_) <;>try simp only[hb])|refine U.au (by decide +kernel) rfl fun K hK =>?_|refine .flat _ (hC) rfl ?_|refine .lead _ (h126) ?_|(refine .aq [0,1,4,5,6,7,8,9,10,11,12,20,28,29,59,75] hK ?_;clear hK K)|(with_reducible refine .done (hK _ ?_);clear hK K)|refine U.of rfl ?_|(with_reducible refine aj.ar (fun h =>?_) (fun h =>?_) <;>try simp only[h])) <;>try simp only[av,R,simprocAttr])
  all_goals clear R
  refine U.loop (uG s t) (Gg t) (fun x=>7-x.l.length) ⟨m0,[],v0⟩ ⟨by simp,by simp only;omega,?_⟩ ?_ ?_
  ·rw[hu0,FZ hw ho];rfl
  ·simp only[uG,gW];refine bn.bZ ?_ ?_ ?_ ?_ <;>simp[bK,bP,bO,bF,aw,bI,cL,I.only,ai.only,bt,oD]
   all_goals rfl
  rintro ⟨n0,l,u⟩ ⟨hl7,hul,htk⟩;simp only at hl7 hul htk;rw[hu0] at htk;simp only[uG,gW];by_cases hlt7:l.length<7
  ·have hlc:decide ((l.length:Int)<7)=true:=decide_eq_true (by omega);have hib:=fun {y:Option I} =>sF 1 (dK l) (y:=y) (show (0:Int)≤(l.length:Int)∧(l.length:Int)<(7:Nat) by omega) rfl;have hat:=fun p=>ku (p:=p) (dK l) hlt7;have hst:=fun A n v u rest=>ab5 (A:=A) (n:=n) hlt7 (v:=v) (u:=u) (rest:=rest);have hws:=dU (i:=l.length) (by omega);have e7:7-l.length=(7-(l++[(0:Int)]).length)+1:=by simp;omega
   rcases AD u with ⟨w,v,m,hw1,ho1,hv1⟩ | hno
   ·have h126':=xO (aD.of u) (by rw[aD.dC];omega) w v m (by rw[aD.dC];exact hw1) ho1;have R:=y6 @hlc (y6 @hib (y6 @hat (y6 @hst (y6 @hws (y6 @zw8 (y6 @bu ak))))))
    repeat' ((first |(with_reducible refine .guard (fun hb =>?_) (fun hb =>?_) <;>try simp only[hb])|refine U.au (by decide +kernel) rfl fun K hK =>?_|refine .lead _ (h126') ?_|(refine .aq [0,1,4,5,6,7,8,9,10,11,12,20,28,29,59,75] hK ?_;clear hK K)|(with_reducible refine .done (hK _ ?_);clear hK K)|refine U.of rfl ?_|(with_reducible refine aj.ar (fun h =>?_) (fun h =>?_) <;>try simp only[h])) <;>try simp only[av,R,simprocAttr])
    all_goals clear R
    refine ⟨⟨n0,l++[m],v⟩,⟨by simp;omega,by simp only;omega,?_⟩,by simp;omega,?_⟩
    ·rw[hu0,htk,e7,FZ hw1 ho1];simp only[zz1,zw0,zx9,Option.map_map]
     congr 1
     funext p
     simp
    ·have el:((l++[m]).length:Int)=((l.length+1:Nat):Int):=by simp
     simp only[el];refine bn.bZ ?_ ?_ ?_ ?_ <;>simp[bK,bP,bO,bF,aw,bI,cL,I.only,ai.only,bt]
     all_goals rfl
   ·have hn:ep bm s t=none:=by rw[hT,htk,e7,FY hno];rfl
    have R:=y6 @hlc (y6 @hib (y6 @hat (y6 @hst (y6 @hws (y6 @j7 (y6 @bu ak))))))
    repeat' ((first |(with_reducible refine .guard (fun hb =>?_) (fun hb =>?_) <;>try simp only[hb])|(refine U.lO (gs:=BI) (gs1:=[_,_]) rfl fun K hK =>?_)|refine U.au (by decide +kernel) rfl fun K hK =>?_|refine .flat _ (hC) rfl ?_|(refine .aq [0,1,4,5,6,7,8,9,10,11,12,20,28,29,59,75] hK ?_;clear hK K)|(with_reducible refine .done (hK _ ?_);clear hK K)|refine U.of rfl ?_|(with_reducible refine aj.ar (fun h =>?_) (fun h =>?_) <;>try simp only[h])) <;>try simp only[av,R,simprocAttr])
    all_goals clear R
    exact .call (De rfl (by omega) hno (o9 hn rfl rfl rfl rfl rfl rfl))
  ·have hlc:decide ((l.length:Int)<7)=false:=decide_eq_false (by omega);have h7:l.length=7:=by omega
   have hib:=fun {k:Int} {y:Option I} (h:(0:Int)≤k∧k<(7:Nat))=>sF 1 (dK l) (y:=y) h rfl;have hi0:=fun {y:Option I} =>hib (k:=0) (y:=y) (by decide);have hi1:=fun {y:Option I} =>hib (k:=1) (y:=y) (by decide);have hi2:=fun {y:Option I} =>hib (k:=2) (y:=y) (by decide);have hi3:=fun {y:Option I} =>hib (k:=3) (y:=y) (by decide);have hi4:=fun {y:Option I} =>hib (k:=4) (y:=y) (by decide);have hi5:=fun {y:Option I} =>hib (k:=5) (y:=y) (by decide);have hi6:=fun {y:Option I} =>hib (k:=6) (y:=y) (by decide);have ha0:=fun p=>ku (p:=p) (dK l) (show 0<7 by decide);have ha1:=fun p=>ku (p:=p) (dK l) (show 1<7 by decide);have ha2:=fun p=>ku (p:=p) (dK l) (show 2<7 by decide);have ha3:=fun p=>ku (p:=p) (dK l) (show 3<7 by decide);have ha4:=fun p=>ku (p:=p) (dK l) (show 4<7 by decide);have ha5:=fun p=>ku (p:=p) (dK l) (show 5<7 by decide);have ha6:=fun p=>ku (p:=p) (dK l) (show 6<7 by decide);rw[h7,Nat.sub_self,ju,zy1,List.append_nil] at htk;clear hT;have hT:=aa7 (s:=s) hl (hu0▸htk);have hmk:=NO (n0:=n0) (u:=u) h7;have f80:=pG (jJ (n0::l) u);generalize jJ (n0::l) u=r at *;have hstr:=fun A n b rest=>ev.2 A n b rest r _ hmk;cases ho2:bm r
   ·have hn:ep bm s t=none:=by rw[hT,if_neg (by simp[ho2])]
    rw[ho2] at f80;have R:=y6 @hlc (y6 @hi0 (y6 @hi1 (y6 @hi2 (y6 @hi3 (y6 @hi4 (y6 @hi5 (y6 @hi6 (y6 @ha0 (y6 @ha1 (y6 @ha2 (y6 @ha3 (y6 @ha4 (y6 @ha5 (y6 @ha6 (y6 @oq (y6 @hstr (y6 @ev (y6 @j7 (y6 @bu ak)))))))))))))))))))
    repeat' ((first |(with_reducible refine .guard (fun hb =>?_) (fun hb =>?_) <;>try simp only[hb])|(refine U.lO (gs:=BJ) (gs1:=[_,_]) rfl fun K hK =>?_)|refine U.au (by decide +kernel) rfl fun K hK =>?_|refine .flat _ (f80) rfl ?_|(refine .aq [0,1,4,5,6,7,8,9,10,11,12,20,28,29,59,75] hK ?_;clear hK K)|(with_reducible refine .done (hK _ ?_);clear hK K)|refine U.of rfl ?_|(with_reducible refine aj.ar (fun h =>?_) (fun h =>?_) <;>try simp only[h])) <;>try simp only[av,R,simprocAttr])
    all_goals clear R
    refine nC ?_ (o9 hn rfl rfl rfl rfl rfl rfl);rfl
   rw[ho2] at f80;have f81:=pH s hs r ho2;by_cases hq:dR s r=t
   ·by_cases hz:n0=dy s (de r)
    ·have hn:gY s t=(r,dy s (de r),true):=by rw[gY,hT,if_pos ⟨ho2,hq,hz⟩]
     have d1:(n0 != dy s (de r))=false:=by simp[hz]
     have d2:(decide (dR s r=t))=true:=decide_eq_true hq;have R:=y6 @hlc (y6 @hi0 (y6 @hi1 (y6 @hi2 (y6 @hi3 (y6 @hi4 (y6 @hi5 (y6 @hi6 (y6 @ha0 (y6 @ha1 (y6 @ha2 (y6 @ha3 (y6 @ha4 (y6 @ha5 (y6 @ha6 (y6 @d1 (y6 @d2 (y6 @iT (y6 @oq (y6 @hstr (y6 @ev (y6 @rn (y6 @j7 (y6 @bu ak)))))))))))))))))))))))
     repeat' ((first |(with_reducible refine .guard (fun hb =>?_) (fun hb =>?_) <;>try simp only[hb])|refine U.au (by decide +kernel) rfl fun K hK =>?_|refine .flat _ (f80) rfl ?_|refine .lead _ (f81) ?_|(refine U.lN (gs:=vD) [] [(4,[1900004]),(5,[1900005]),(6,[1900006])] [0,1,2,3,4] (by decide +kernel) (dB.of (by simp[jE,bI,I.only])) fun K hK =>?_;simp only[kc,vD,List.getD_cons_zero,List.getD_cons_succ,R,simprocAttr])|(refine .aq [0,1,4,5,6,7,8,9,10,11,12,20,28,29,59,75] hK ?_;clear hK K)|(with_reducible refine .done (hK _ ?_);clear hK K)|refine U.of rfl ?_|(with_reducible refine aj.ar (fun h =>?_) (fun h =>?_) <;>try simp only[h])) <;>try simp only[av,R,simprocAttr])
     all_goals clear R
     exact ⟨⟨⟨_,rfl,(eh _).trans (eh _).symm⟩,⟨_,rfl,rfl⟩,⟨_,rfl,rfl⟩,trivial⟩,E7 (r:=r) (n:=dy s (de r)) (b:=true) (show _∧_ by rw[hn];exact ⟨rfl,rfl⟩) rfl rfl rfl rfl rfl rfl⟩
    ·have hn:ep bm s t=none:=by rw[hT,if_neg (fun k=>hz k.2.2)]
     have d1:(n0 != dy s (de r))=true:=by simp[hz]
     have d2:(decide (dR s r=t))=true:=decide_eq_true hq;have R:=y6 @hlc (y6 @hi0 (y6 @hi1 (y6 @hi2 (y6 @hi3 (y6 @hi4 (y6 @hi5 (y6 @hi6 (y6 @ha0 (y6 @ha1 (y6 @ha2 (y6 @ha3 (y6 @ha4 (y6 @ha5 (y6 @ha6 (y6 @d1 (y6 @d2 (y6 @iT (y6 @oq (y6 @hstr (y6 @ev (y6 @rn (y6 @j7 (y6 @bu ak)))))))))))))))))))))))
     repeat' ((first |(with_reducible refine .guard (fun hb =>?_) (fun hb =>?_) <;>try simp only[hb])|(refine U.lO (gs:=vC) (gs1:=[_,_]) rfl fun K hK =>?_)|refine U.au (by decide +kernel) rfl fun K hK =>?_|refine .flat _ (f80) rfl ?_|refine .lead _ (f81) ?_|(refine .aq [0,1,4,5,6,7,8,9,10,11,12,20,28,29,59,75] hK ?_;clear hK K)|(with_reducible refine .done (hK _ ?_);clear hK K)|refine U.of rfl ?_|(with_reducible refine aj.ar (fun h =>?_) (fun h =>?_) <;>try simp only[h])) <;>try simp only[av,R,simprocAttr])
     all_goals clear R
     refine nC ?_ (o9 hn rfl rfl rfl rfl rfl rfl);rfl
   ·have hn:ep bm s t=none:=by rw[hT,if_neg (fun k=>hq k.2.1)]
    have d2:(decide (dR s r=t))=false:=decide_eq_false hq;have R:=y6 @hlc (y6 @hi0 (y6 @hi1 (y6 @hi2 (y6 @hi3 (y6 @hi4 (y6 @hi5 (y6 @hi6 (y6 @ha0 (y6 @ha1 (y6 @ha2 (y6 @ha3 (y6 @ha4 (y6 @ha5 (y6 @ha6 (y6 @d2 (y6 @iT (y6 @oq (y6 @hstr (y6 @ev (y6 @rn (y6 @j7 (y6 @bu ak))))))))))))))))))))))
    repeat' ((first |(with_reducible refine .guard (fun hb =>?_) (fun hb =>?_) <;>try simp only[hb])|(refine U.lO (gs:=vC) (gs1:=[_,_]) rfl fun K hK =>?_)|refine U.au (by decide +kernel) rfl fun K hK =>?_|refine .flat _ (f80) rfl ?_|refine .lead _ (f81) ?_|(refine .aq [0,1,4,5,6,7,8,9,10,11,12,20,28,29,59,75] hK ?_;clear hK K)|(with_reducible refine .done (hK _ ?_);clear hK K)|refine U.of rfl ?_|(with_reducible refine aj.ar (fun h =>?_) (fun h =>?_) <;>try simp only[h])) <;>try simp only[av,R,simprocAttr])
    all_goals clear R
    refine nC ?_ (o9 hn rfl rfl rfl rfl rfl rfl);rfl
 ·have hd:decide (t.getLast?=some 10)=false:=decide_eq_false hl;have hn:ep bm s t=none:=by rw[ep,if_neg hl]
  rw[hd] at hC;have R:=y6 @hd (y6 @pX (y6 @j7 (y6 @bu ak)))
  repeat' ((first |(with_reducible refine .guard (fun hb =>?_) (fun hb =>?_) <;>try simp only[hb])|(refine U.lO (gs:=BK) (gs1:=[_,_]) rfl fun K hK =>?_)|refine U.au (by decide +kernel) rfl fun K hK =>?_|refine .flat _ (hC) rfl ?_|(refine .aq [0,1,4,5,6,7,8,9,10,11,12,20,28,29,59,75] hK ?_;clear hK K)|(with_reducible refine .done (hK _ ?_);clear hK K)|refine U.of rfl ?_|(with_reducible refine aj.ar (fun h =>?_) (fun h =>?_) <;>try simp only[h])) <;>try simp only[av,R,simprocAttr])
  all_goals clear R
  refine nC ?_ (o9 hn rfl rfl rfl rfl rfl rfl);rfl
theorem G9{s:Int}(hs:0≤s∧s<1000003){t:List UInt8}(ht:t.length≤281474976710656):eU Tryz.prog 70 [enc s,enc (aD.of t)] [] (fun r os'=>r=kZ (gY s t)∧os'=[]):=by
 refine eU.aaj Tryz.func70 Jt Np Mk (t7 rfl) (t7 rfl) (fun m hm=>by simp[aw,aG] at hm) (zs:=n9) Yx JW (by decide) fun hwf W0 bC E1 =>?_;simp only[bA,zz3];clear hwf;refine .fQ (by decide +kernel) fun K hK =>?_
 try simp only[BH,aU,simprocAttr]
 refine .done (hK _ ?_);simp only[cg];refine ⟨_,_,nM,gW default 0 false,[0,1,4,5,6],[enc s,enc (aD.of t),.ptr 1900004 [],.ptr 1900005 [],.ptr 1900006 []],nz,qN s t,rfl,?_⟩;exact {
  aV:=rfl
  BV:=Yv
  arg:=⟨.inl ⟨rfl,rfl,rfl⟩,.inl ⟨(gP _ _).symm,bt _ _,eW _⟩,.inl ⟨rfl,rfl,rfl⟩,.inl ⟨rfl,rfl,rfl⟩,.inl ⟨rfl,rfl,rfl⟩,trivial⟩
  yE:=HW s t
  FE:=rfl
  len:=rfl
  box:=fun q hq=>by
   simp only[nz,n9,List.zip_cons_cons,List.zip_nil_right,zw5,List.not_mem_nil,or_false] at hq;rcases hq with rfl | rfl | rfl <;>exact ⟨_,rfl,rfl⟩
  j5:=fun m hm=>by
   have:=lF.1 hm;exact ⟨Nat.le_trans (t7 rfl:_≤1000000) (by omega),by omega⟩
  rest:=fun W D E d=>abn hs ht W D E _ d
  ln:=HV s t }
theorem ya{s:Int}(hs:0≤s∧s<1000003){t:List UInt8}(ht:t.length≤281474976710656):aK Tryz.prog 70 [enc s,enc (aD.of t)] (kZ (gY s t)):=aK.CP (G9 hs ht)
def kQ(s:Int)(t:List UInt8):ah×Int×Int:=if dP 0 1000002 s=false then (default,0,1) else match ep bm s t with
 |some (r,n)=>(r,n,0)
 |none=>(default,0,87)
theorem GM(s:Int)(t:List UInt8)(ht:t.length≤281474976710656):aK Tryz.prog 31 [enc s,enc (aD.of t)] (.tuple [enc (kQ s t).1,enc (kQ s t).2.1,enc (kQ s t).2.2]):=by
 refine aK.bJ Tryz.func31 Jf KC L6 (t7 rfl) (fun hwf W0 bC E1 =>?_);simp only[zy,Ed,bA,zz3];clear hwf;have f1:=yd s;cases q1:dP 0 1000002 s
 ·rw[q1] at f1;have e:kQ s t=(default,0,1):=by rw[kQ,if_pos q1]
  rw[e];have R:=y6 @dY (y6 @ev ak)
  repeat' ((first |refine U.au (by decide +kernel) rfl fun K hK =>?_|refine .flat _ (f1) rfl ?_|(refine .aq [0,1,4,5,6,7,8,9,12,22] hK ?_;clear hK K)|(with_reducible refine .done (hK _ ?_);clear hK K)|refine U.of rfl ?_|(with_reducible refine aj.ar (fun h =>?_) (fun h =>?_) <;>try simp only[h])) <;>try simp only[av,R,simprocAttr])
  all_goals clear R
  all_goals rfl
 rw[q1] at f1;have f2:=ya (s:=s) (by have:=qn.1 q1;omega) ht;rw[kZ] at f2;cases h:ep bm s t with
 |none =>
  have e:kQ s t=(default,0,87):=by rw[kQ,if_neg (by simp[q1]),h]
  have e2:gY s t=(default,0,false):=by rw[gY,h]
  rw[e];rw[e2] at f2;have R:=y6 @dY (y6 @ev ak)
  repeat' ((first |refine U.au (by decide +kernel) rfl fun K hK =>?_|refine .flat _ (f1) rfl ?_|refine .lead _ (f2) ?_|(refine .aq [0,1,4,5,6,7,8,9,12,22] hK ?_;clear hK K)|(with_reducible refine .done (hK _ ?_);clear hK K)|refine U.of rfl ?_|(with_reducible refine aj.ar (fun h =>?_) (fun h =>?_) <;>try simp only[h])) <;>try simp only[av,R,simprocAttr])
  all_goals clear R
  all_goals rfl
 |some p =>
  obtain ⟨r,n⟩:=p;have e:kQ s t=(r,n,0):=by rw[kQ,if_neg (by simp[q1]),h]
  have e2:gY s t=(r,n,true):=by rw[gY,h]
  rw[e];rw[e2] at f2;have R:=y6 @dY (y6 @ev ak)
  repeat' ((first |refine U.au (by decide +kernel) rfl fun K hK =>?_|refine .flat _ (f1) rfl ?_|refine .lead _ (f2) ?_|(refine .aq [0,1,4,5,6,7,8,9,12,22] hK ?_;clear hK K)|(with_reducible refine .done (hK _ ?_);clear hK K)|refine U.of rfl ?_|(with_reducible refine aj.ar (fun h =>?_) (fun h =>?_) <;>try simp only[h])) <;>try simp only[av,R,simprocAttr])
  all_goals clear R
  all_goals rfl
theorem iW{α:Type}{l:List α}{i:Nat}(h:i<l.length):l.take (i+1)=l.take i++[l[i]]:=zx7 h
theorem rr(a:List ah):0≤dW 1 a∧dW 1 a<1000003:=FV a (by omega)
theorem qA{s:Int}(hs:0≤s∧s<1000003){r:ah}(h:bm r=true):(dR s r).length≤240:=by
 have h1:=uU (k:=160) (tu h) (tq h);have h2:=pw hs (de r);have h3:=qv (k:=7) (n:=dy s (de r)) (by omega);simp only[dR,dD,List.flatMap_cons,List.flatMap_nil,zz1,zw0,zx9];omega
theorem rv:∀ (l:List ah) {s:Int},0≤s∧s<1000003→(∀ r∈l,bm r=true)→(eJ s l).length≤240*l.length
 | [],_,_,_=>by simp[eJ]
 |r::l,s,hs,h=>by
  have h1:=qA hs (h r (by simp));have h2:=rv l (pw hs (de r)) fun q hq=>h q (by simp[hq]);simp only[eJ,zz1,zw0];omega
theorem Gx(l:List ah)(hl:l.length≤4000000000000)(h:∀ r∈l,bm r=true):aK Tryz.prog 137 [enc l] (enc (dW 1 l)):=by
 refine aK.bJ Tryz.func137 IQ Kd LH (t7 rfl) (fun hwf W0 bC E1 =>?_);simp only[zb,DL,bA];clear hwf;have R:=ak
 repeat' ((first |refine U.au (by decide +kernel) rfl fun K hK =>?_|(refine .aq [0,2,3,5,6,7,8,9] hK ?_;clear hK K)|(with_reducible refine .done (hK _ ?_);clear hK K)|refine U.of rfl ?_|(with_reducible refine aj.ar (fun h =>?_) (fun h =>?_) <;>try simp only[h])) <;>try simp only[av,R,simprocAttr])
 all_goals clear R
 refine U.loop (fun i:Nat=>al [(0,enc l),(3,.int .i64 (dW 1 (l.take i))),(6,enc l),(7,.int .i64 l.length),(8,.int .i64 i)] []) (fun i=>i≤l.length) (fun i=>l.length-i) 0 (zw7 _) ?_ ?_
 ·refine bn.bZ ?_ ?_ ?_ ?_ <;>simp[bK,bP,bO,bF,bI,I.only,bt]
  all_goals rfl
 intro i hi;by_cases hlt:i<l.length
 ·have hlc:=eB hlt;have he:=fun A=>dQ (A:=A) 8 hlt rfl;have hw:=dU (i:=i) (by omega);have hsn:=(ue (l.take i) l[i] 1).2;rw[←iW hlt] at hsn;have hok:=h l[i] (zw3 hlt);have hst:=rr (l.take i);generalize l[i]=r at *;generalize dW 1 (l.take i)=z at *;have f:=pH z hst r hok;have R:=y6 @hlc (y6 @he (y6 @hw (y6 @dY (y6 @ev ak))))
  repeat' ((first |refine U.au (by decide +kernel) rfl fun K hK =>?_|refine .lead _ (f) ?_|(refine .aq [0,2,3,5,6,7,8,9] hK ?_;clear hK K)|(with_reducible refine .done (hK _ ?_);clear hK K)|refine U.of rfl ?_|(with_reducible refine aj.ar (fun h =>?_) (fun h =>?_) <;>try simp only[h])) <;>try simp only[av,R,simprocAttr])
  all_goals clear R
  refine ⟨i+1,by omega,by omega,?_⟩;rw[hsn];refine bn.bZ ?_ ?_ ?_ ?_ <;>simp[bK,bP,bO,bF,bI,I.only,bt]
  all_goals rfl
 ·have hlc:=eX hlt;have hge:i=l.length:=by omega
  subst hge;rw[List.take_length];have R:=y6 @hlc ak
  repeat' ((first |refine U.au (by decide +kernel) rfl fun K hK =>?_|(refine .aq [0,2,3,5,6,7,8,9] hK ?_;clear hK K)|(with_reducible refine .done (hK _ ?_);clear hK K)|refine U.of rfl ?_|(with_reducible refine aj.ar (fun h =>?_) (fun h =>?_) <;>try simp only[h])) <;>try simp only[av,R,simprocAttr])
  all_goals clear R
  all_goals rfl
theorem acG(l:List ah)(hl:l.length≤4000000000000)(h:∀ r∈l,bm r=true):aK Tryz.prog 90 [enc l] (enc (aD.of (eJ 1 l))):=by
 refine aK.bJ Tryz.func90 JI K4 Mz (t7 rfl) (fun hwf W0 bC E1 =>?_);simp only[zV,EI,bA];clear hwf;have R:=ak
 repeat' ((first |refine U.au (by decide +kernel) rfl fun K hK =>?_|(refine .aq [0,2,3,4,5,6,7,11] hK ?_;clear hK K)|(with_reducible refine .done (hK _ ?_);clear hK K)|refine U.of rfl ?_|(with_reducible refine aj.ar (fun h =>?_) (fun h =>?_) <;>try simp only[h])) <;>try simp only[av,R,simprocAttr])
 all_goals clear R
 refine U.loop (fun i:Nat=>al [(0,enc l),(3,enc (aD.of (eJ 1 (l.take i)))),(4,.int .i64 (dW 1 (l.take i))),(5,.int .i64 i)] []) (fun i=>i≤l.length) (fun i=>l.length-i) 0 (zw7 _) ?_ ?_
 ·refine bn.bZ ?_ ?_ ?_ ?_ <;>simp[bK,bP,bO,bF,bI,I.only,bt]
  all_goals exact ⟨rfl,rfl⟩
 intro i hi;by_cases hlt:i<l.length
 ·have hlc:=eB hlt;have he:=fun A=>dQ (A:=A) 8 hlt rfl;have hw:=dU (i:=i) (by omega);have hsn:=ue (l.take i) l[i] 1;rw[←iW hlt] at hsn;have hok:=h l[i] (zw3 hlt);have hst:=rr (l.take i);have hln:=rv (l.take i) (s:=1) (by omega) fun q hq=>h q (List.mem_of_mem_take hq);have hli:(l.take i).length=i:=by rw[zy0];omega
  generalize l[i]=r at *;have hll:=qA hst hok;generalize dW 1 (l.take i)=z at *;generalize eJ 1 (l.take i)=u at *;have f:=GZ z hst r hok;have ha:=fe u (dR z r) (by omega);have R:=y6 @hlc (y6 @he (y6 @hw (y6 @ha ak)))
  repeat' ((first |refine U.au (by decide +kernel) rfl fun K hK =>?_|refine .lead _ (f) ?_|(refine .aq [0,2,3,4,5,6,7,11] hK ?_;clear hK K)|(with_reducible refine .done (hK _ ?_);clear hK K)|refine U.of rfl ?_|(with_reducible refine aj.ar (fun h =>?_) (fun h =>?_) <;>try simp only[h])) <;>try simp only[av,R,simprocAttr])
  all_goals clear R
  refine ⟨i+1,by omega,by omega,?_⟩;rw[hsn.1,hsn.2];clear hsn;refine bn.bZ ?_ ?_ ?_ ?_ <;>simp[bK,bP,bO,bF,bI,I.only,bt]
  all_goals rfl
 ·have hlc:=eX hlt;have hge:i=l.length:=by omega
  subst hge;rw[List.take_length];have R:=y6 @hlc ak
  repeat' ((first |refine U.au (by decide +kernel) rfl fun K hK =>?_|(refine .aq [0,2,3,4,5,6,7,11] hK ?_;clear hK K)|(with_reducible refine .done (hK _ ?_);clear hK K)|refine U.of rfl ?_|(with_reducible refine aj.ar (fun h =>?_) (fun h =>?_) <;>try simp only[h])) <;>try simp only[av,R,simprocAttr])
  all_goals clear R
  all_goals rfl
def c6(l:List ah):ew 6 Int:=⟨(List.range 6).map fun m=>(dN l (m:Nat):Int),by simp⟩
theorem r3(l:List ah){k:Nat}(h:k<6):(c6 l).g k=dN l k:=by
 have:∀ j:Fin 6,(c6 l).g j=dN l (j:Nat):=fun j=>by
  match j with
  |0=>rfl
  |1=>rfl
  |2=>rfl
  |3=>rfl
  |4=>rfl
  |5=>rfl
 exact this ⟨k,h⟩
theorem oC:I.agg [.int .i64 0,.int .i64 0,.int .i64 0,.int .i64 0,.int .i64 0,.int .i64 0]=enc (c6 []):=rfl
theorem Lo(l:List ah)(r:ah){k:Nat}(h:k<6)(hm:r.aT=(k:Int)):(⟨(c6 l).l.set k ((c6 l).g k+1),by simp[(c6 l).h]⟩:ew 6 Int)=c6 (l++[r]):=by
 rw[r3 l h];simp only[c6,ew.mk.injEq];refine List.ext_getElem (by simp) fun i h1 h2 =>?_;simp only[List.getElem_set,List.getElem_map,List.getElem_range,pV,hm];by_cases e:k=i
 ·subst e;simp
 ·rw[if_neg e,if_neg (by omega)];simp
theorem abP(l:List ah)(r:ah){k:Nat}(h:k<6)(hm:r.aT=(k:Int)):(enc (c6 l):I).dm [k] (.int .i64 ((c6 l).g k+1))=enc (c6 (l++[r])):=by
 have h1:(enc (c6 l):I).c7=some ((c6 l).l.map enc):=rfl;rw[xg,h1];simp only[pq,BN (c6 l) h,ri,ff];rw[←Lo l r h hm]
 change I.agg _=I.agg (((c6 l).l.set k ((c6 l).g k+1)).map enc)
 rw[List.map_set];rfl
theorem FL(l:List ah)(r:ah){k:Nat}(h:k<6)(hm:r.aT=(k:Int))(A:ab)(n:Nat)(u:Int)(rest:List aC):dT A none n [k] (enc (c6 l)) (.int .i64 ((c6 l).g k+1)) rest (some (.int .i64 u))=aA rest (A.aN n (.box (enc (c6 (l++[r]))))):=by
 rw[fg (s:=none) (v:=.int .i64 ((c6 l).g k+1)) (old:=.int .i64 u) rfl rfl rfl,abP l r h hm]
theorem fR:(∀ A n b rest (q r:ew 6 Int),dT A (some 6) n [] b (enc q) rest (some (enc r))=aA rest (A.aN n (.box (enc q))))∧(∀ q:ew 6 Int,bT (some 6) (enc q)=true) :=
 ⟨fun A n b rest q r=>by rw[fg (eW _) (by rw[ik];rfl) ((eh _).trans (eh _).symm),ff],fun q=>by rw[ik];rfl⟩
theorem Ar(l:List ah)(m:Int):dN l m≤l.length:=List.countP_le_length
def qm(l:List ah):Prop:=∀ r∈l,0≤r.aT∧r.aT≤5
theorem ur(l:List ah)(hl:l.length≤4000000000000)(h:qm l):aK Tryz.prog 100 [enc l] (enc (c6 l)):=by
 refine aK.bJ Tryz.func100 It JX Lp (t7 rfl) (fun hwf W0 bC E1 =>?_);simp only[yP,Ds,bA];clear hwf;have R:=y6 @oC ak
 repeat' ((first |refine U.au (by decide +kernel) rfl fun K hK =>?_|(refine .aq [0,2,3,5,6,7,8,9] hK ?_;clear hK K)|(with_reducible refine .done (hK _ ?_);clear hK K)|refine U.of rfl ?_|(with_reducible refine aj.ar (fun h =>?_) (fun h =>?_) <;>try simp only[h])) <;>try simp only[av,R,simprocAttr])
 all_goals clear R
 refine U.loop (fun i:Nat=>al [(0,enc l),(2,.ptr 2 []),(3,.ptr 3 []),(6,enc l),(7,.int .i64 l.length),(8,.int .i64 i)] [(2,.box (enc (c6 []))),(3,.box (enc (c6 (l.take i))))]) (fun i=>i≤l.length) (fun i=>l.length-i) 0 (zw7 _) ?_ ?_
 ·refine bn.bZ ?_ ?_ ?_ ?_ <;>simp[bK,bP,bO,bF,aw,bI,cL,I.only,ai.only,bt]
  all_goals rfl
 intro i hi;by_cases hlt:i<l.length
 ·have hlc:=eB hlt;have he:=fun A=>dQ (A:=A) 8 hlt rfl;have hw:=dU (i:=i) (by omega);have hsn:=iW hlt;have hin:=h l[i] (zw3 hlt);have hle:=Ar (l.take i);have hli:(l.take i).length=i:=by rw[zy0];omega
  generalize l[i]=r at *;obtain ⟨k,hk⟩:=zx0 hin.1;have hk6:k<6:=by omega
  have hib:=fun {y:Option I} =>sF 1 (c6 (l.take i)) (y:=y) (show (0:Int)≤(k:Int)∧(k:Int)<(6:Nat) by omega) rfl;have hat:=fun p=>ku (p:=p) (c6 (l.take i)) hk6;have hst:=FL (l.take i) r hk6 hk;have hw1:IntKind.i64.wrap ((c6 (l.take i)).g k+1)=(c6 (l.take i)).g k+1:=by
   have:=hle k;rw[r3 _ hk6];exact dE _ (by omega) (by omega)
  rw[←hsn] at hst;have R:=y6 @hlc (y6 @he (y6 @hw (y6 @hk (y6 @hib (y6 @hat (y6 @hst (y6 @hw1 (y6 @zw8 (y6 @dY (y6 @ev ak))))))))))
  repeat' ((first |refine U.au (by decide +kernel) rfl fun K hK =>?_|(refine .aq [0,2,3,5,6,7,8,9] hK ?_;clear hK K)|(with_reducible refine .done (hK _ ?_);clear hK K)|refine U.of rfl ?_|(with_reducible refine aj.ar (fun h =>?_) (fun h =>?_) <;>try simp only[h])) <;>try simp only[av,R,simprocAttr])
  all_goals clear R
  refine ⟨i+1,by omega,by omega,?_⟩;clear hsn;refine bn.bZ ?_ ?_ ?_ ?_ <;>simp[bK,bP,bO,bF,aw,bI,cL,I.only,ai.only,bt]
  all_goals rfl
 ·have hlc:=eX hlt;have hge:i=l.length:=by omega
  subst hge;rw[List.take_length];have R:=y6 @hlc (y6 @fR ak)
  repeat' ((first |refine U.au (by decide +kernel) rfl fun K hK =>?_|(refine .aq [0,2,3,5,6,7,8,9] hK ?_;clear hK K)|(with_reducible refine .done (hK _ ?_);clear hK K)|refine U.of rfl ?_|(with_reducible refine aj.ar (fun h =>?_) (fun h =>?_) <;>try simp only[h])) <;>try simp only[av,R,simprocAttr])
  all_goals clear R
  all_goals rfl
theorem uu(l:List ah)(hl:l.length≤4000000000000)(h:qm l):aK Tryz.prog 102 [enc l] (enc (c6 l)):=by
 refine aK.bJ Tryz.func102 Iu JY Lq (t7 rfl) (fun hwf W0 bC E1 =>?_);simp only[yQ,Dt,bA];clear hwf;have R:=y6 @oC ak
 repeat' ((first |refine U.au (by decide +kernel) rfl fun K hK =>?_|(refine .aq [0,2,3,4,8] hK ?_;clear hK K)|(with_reducible refine .done (hK _ ?_);clear hK K)|refine U.of rfl ?_|(with_reducible refine aj.ar (fun h =>?_) (fun h =>?_) <;>try simp only[h])) <;>try simp only[av,R,simprocAttr])
 all_goals clear R
 refine U.loop (fun i:Nat=>al [(0,enc l),(2,.ptr 2 []),(3,.ptr 3 []),(4,.int .i64 i)] [(2,.box (enc (c6 []))),(3,.box (enc (c6 (l.take i))))]) (fun i=>i≤l.length) (fun i=>l.length-i) 0 (zw7 _) ?_ ?_
 ·refine bn.bZ ?_ ?_ ?_ ?_ <;>simp[bK,bP,bO,bF,aw,bI,cL,I.only,ai.only,bt]
  all_goals rfl
 intro i hi;by_cases hlt:i<l.length
 ·have hlc:=eB hlt;have he:=fun A=>dQ (A:=A) 8 hlt rfl;have hw:=dU (i:=i) (by omega);have hsn:=iW hlt;have hin:=h l[i] (zw3 hlt);have hle:=Ar (l.take i);have hli:(l.take i).length=i:=by rw[zy0];omega
  generalize l[i]=r at *;obtain ⟨k,hk⟩:=zx0 hin.1;have hk6:k<6:=by omega
  have hib:=fun {y:Option I} =>sF 1 (c6 (l.take i)) (y:=y) (show (0:Int)≤(k:Int)∧(k:Int)<(6:Nat) by omega) rfl;have hat:=fun p=>ku (p:=p) (c6 (l.take i)) hk6;have hst:=FL (l.take i) r hk6 hk;have hw1:IntKind.i64.wrap ((c6 (l.take i)).g k+1)=(c6 (l.take i)).g k+1:=by
   have:=hle k;rw[r3 _ hk6];exact dE _ (by omega) (by omega)
  rw[←hsn] at hst;have R:=y6 @hlc (y6 @he (y6 @hw (y6 @hk (y6 @hib (y6 @hat (y6 @hst (y6 @hw1 (y6 @zw8 ak))))))))
  repeat' ((first |refine U.au (by decide +kernel) rfl fun K hK =>?_|(refine .aq [0,2,3,4,8] hK ?_;clear hK K)|(with_reducible refine .done (hK _ ?_);clear hK K)|refine U.of rfl ?_|(with_reducible refine aj.ar (fun h =>?_) (fun h =>?_) <;>try simp only[h])) <;>try simp only[av,R,simprocAttr])
  all_goals clear R
  refine ⟨i+1,by omega,by omega,?_⟩;clear hsn;refine bn.bZ ?_ ?_ ?_ ?_ <;>simp[bK,bP,bO,bF,aw,bI,cL,I.only,ai.only,bt]
  all_goals rfl
 ·have hlc:=eX hlt;have hge:i=l.length:=by omega
  subst hge;rw[List.take_length];have R:=y6 @hlc (y6 @fR ak)
  repeat' ((first |refine U.au (by decide +kernel) rfl fun K hK =>?_|(refine .aq [0,2,3,4,8] hK ?_;clear hK K)|(with_reducible refine .done (hK _ ?_);clear hK K)|refine U.of rfl ?_|(with_reducible refine aj.ar (fun h =>?_) (fun h =>?_) <;>try simp only[h])) <;>try simp only[av,R,simprocAttr])
  all_goals clear R
  all_goals rfl
theorem sN(l:List ah){m:Int}(h:0≤m∧m≤5):np 6 1 none m (some ((c6 l).l.map enc))=some (.int .i64 (dN l m)):=by
 obtain ⟨k,rfl⟩:=zx0 h.1;have hk:k<6:=by omega
 rw[YL (x:=c6 l) 1 (k:=(k:Int)) ⟨h.1,by simpa using hk⟩ rfl];have e:enc ((c6 l).l[((k:Int)).toNat]'((c6 l).lt (by simpa using hk)))=I.int .i64 (dN l k):=by
  have:=r3 l hk;rw[←ew.vJ _ hk] at this;rw[←this];rfl
 rw[e];rfl
theorem yb(l:List ah)(r:ah)(hl:l.length≤4000000000000)(h:qm l)(hr:0≤r.aT∧r.aT≤5):aK Tryz.prog 71 [enc l,enc r] (enc (en l r)):=by
 refine aK.bJ Tryz.func71 Ju KQ Ml (t7 rfl) (fun hwf W0 bC E1 =>?_);simp only[zK,Et,bA,zz3];clear hwf;have hF:=ur l hl h;have hix:=sN l hr;rw[show en l r=(decide ((l.length:Int)<60)&&((dN l r.aT:Int)==r.no)) by
  simp only[en];congr 1;rw[decide_eq_decide];omega]
 cases q1:decide ((l.length:Int)<60)
 ·have R:=y6 @q1 (y6 @hix (y6 @fR ak))
  repeat' ((first |(with_reducible refine .guard (fun hb =>?_) (fun hb =>?_) <;>try simp only[hb])|refine U.au (by decide +kernel) rfl fun K hK =>?_|refine .lead _ (hF) ?_|(refine .aq [0,1,3,4] hK ?_;clear hK K)|(with_reducible refine .done (hK _ ?_);clear hK K)|refine U.of rfl ?_|(with_reducible refine aj.ar (fun h =>?_) (fun h =>?_) <;>try simp only[h])) <;>try simp only[av,R,simprocAttr])
  all_goals clear R
  all_goals rfl
 ·have R:=y6 @q1 (y6 @hix (y6 @fR ak))
  repeat' ((first |(with_reducible refine .guard (fun hb =>?_) (fun hb =>?_) <;>try simp only[hb])|refine U.au (by decide +kernel) rfl fun K hK =>?_|refine .lead _ (hF) ?_|(refine .aq [0,1,3,4] hK ?_;clear hK K)|(with_reducible refine .done (hK _ ?_);clear hK K)|refine U.of rfl ?_|(with_reducible refine aj.ar (fun h =>?_) (fun h =>?_) <;>try simp only[h])) <;>try simp only[av,R,simprocAttr])
  all_goals clear R
  all_goals rfl
def hZ:List ah→List ah→Bool
 |_,[]=>true
 |out,r::l=>bm r&&en out r&&hZ (out++[r]) l
theorem xK:∀ (l out:List ah),hZ out l=true↔jx bm en out l
 | [],_=>by simp[hZ,jx]
 |r::l,out=>by simp only[hZ,jx,zz0,xK l,and_assoc]
theorem acx{l:List ah}{i:Nat}(h:i<l.length):hZ (l.take i) (l.drop i)=(bm l[i]&&en (l.take i) l[i]&&hZ (l.take (i+1)) (l.drop (i+1))):=by
 rw[List.drop_eq_getElem_cons h,hZ,←iW h]
theorem jL{r:ah}(h:bm r=true):0≤r.aT∧r.aT≤5:=(qJ (qK h)).1
theorem tr{l:List ah}{i:Nat}(hi:i<l.length)(h:∀ r∈l.take i,bm r=true)(h2:bm l[i]=true):∀ r∈l.take (i+1),bm r=true:=fun r hr=>by
 rw[iW hi] at hr;rcases zw1.1 hr with h1 | h1
 ·exact h r h1
 ·rw[List.mem_singleton.1 h1];exact h2
theorem G7(l:List ah)(hl:l.length≤4000000000000):aK Tryz.prog 98 [enc l] (enc (hZ [] l)):=by
 refine aK.bJ Tryz.func98 JO La MF (t7 rfl) (fun hwf W0 bC E1 =>?_);simp only[z7,EO,bA];clear hwf;have R:=ak
 repeat' ((first |(with_reducible refine .guard (fun hb =>?_) (fun hb =>?_) <;>try simp only[hb])|refine U.au (by decide +kernel) rfl fun K hK =>?_|(refine .aq [0,2,3,4,5,6,7,8,22] hK ?_;clear hK K)|(with_reducible refine .done (hK _ ?_);clear hK K)|refine U.of rfl ?_|(with_reducible refine aj.ar (fun h =>?_) (fun h =>?_) <;>try simp only[h])) <;>try simp only[av,R,simprocAttr])
 all_goals clear R
 refine U.loop (fun i:Nat=>al [(0,enc l),(5,enc l),(6,.int .i64 l.length),(7,.int .i64 i)] []) (fun i=>i≤l.length∧(∀ r∈l.take i,bm r=true)∧hZ [] l=hZ (l.take i) (l.drop i)) (fun i=>l.length-i) 0 ⟨zw7 _,by simp,by simp⟩ ?_ ?_
 ·refine bn.bZ ?_ ?_ ?_ ?_ <;>simp[bK,bP,bO,bF,bI,I.only,bt]
  all_goals rfl
 rintro i ⟨hi,hk,heq⟩;by_cases hlt:i<l.length
 ·have hlc:=eB hlt;have he:=fun A=>dQ (A:=A) 8 hlt rfl;have hw:=dU (i:=i) (by omega);have hnx:=tr hlt hk;rw[acx hlt] at heq;rw[heq];have hsl:=fun A=>xl (l:=l) (k:=i) A (esz:=8) rfl (by omega);have hli:(l.take i).length=i:=by rw[zy0];omega
  generalize l[i]=r at *;have f80:=pG r;cases q1:bm r
  ·rw[q1] at f80;have R:=y6 @hlc (y6 @he (y6 @hw (y6 @dY (y6 @ev ak))))
   repeat' ((first |(with_reducible refine .guard (fun hb =>?_) (fun hb =>?_) <;>try simp only[hb])|refine U.au (by decide +kernel) rfl fun K hK =>?_|refine .flat _ (f80) rfl ?_|(refine .aq [0,2,3,4,5,6,7,8,22] hK ?_;clear hK K)|(with_reducible refine .done (hK _ ?_);clear hK K)|refine U.of rfl ?_|(with_reducible refine aj.ar (fun h =>?_) (fun h =>?_) <;>try simp only[h])) <;>try simp only[av,R,simprocAttr])
   all_goals clear R
   all_goals rfl
  rw[q1] at f80;have f71:=yb (l.take i) r (by omega) (fun q hq=>jL (hk q hq)) (jL q1);cases q2:en (l.take i) r
  ·rw[q2] at f71;have R:=y6 @hlc (y6 @he (y6 @hw (y6 @hsl (y6 @dY (y6 @ev ak)))))
   repeat' ((first |(with_reducible refine .guard (fun hb =>?_) (fun hb =>?_) <;>try simp only[hb])|refine U.au (by decide +kernel) rfl fun K hK =>?_|refine .flat _ (f80) rfl ?_|refine .flat _ (f71) rfl ?_|(refine .aq [0,2,3,4,5,6,7,8,22] hK ?_;clear hK K)|(with_reducible refine .done (hK _ ?_);clear hK K)|refine U.of rfl ?_|(with_reducible refine aj.ar (fun h =>?_) (fun h =>?_) <;>try simp only[h])) <;>try simp only[av,R,zy8,simprocAttr])
   all_goals clear R
   all_goals rfl
  rw[q2] at f71;have R:=y6 @hlc (y6 @he (y6 @hw (y6 @hsl (y6 @dY (y6 @ev ak)))))
  repeat' ((first |(with_reducible refine .guard (fun hb =>?_) (fun hb =>?_) <;>try simp only[hb])|refine U.au (by decide +kernel) rfl fun K hK =>?_|refine .flat _ (f80) rfl ?_|refine .flat _ (f71) rfl ?_|(refine .aq [0,2,3,4,5,6,7,8,22] hK ?_;clear hK K)|(with_reducible refine .done (hK _ ?_);clear hK K)|refine U.of rfl ?_|(with_reducible refine aj.ar (fun h =>?_) (fun h =>?_) <;>try simp only[h])) <;>try simp only[av,R,zy8,simprocAttr])
  all_goals clear R
  refine ⟨i+1,⟨by omega,hnx q1,?_⟩,by omega,?_⟩
  ·rfl
  refine bn.bZ ?_ ?_ ?_ ?_ <;>simp[bK,bP,bO,bF,bI,I.only,bt]
  all_goals rfl
 ·have hlc:=eX hlt;rw[heq,List.drop_eq_nil_of_le (by omega),hZ];have R:=y6 @hlc ak
  repeat' ((first |(with_reducible refine .guard (fun hb =>?_) (fun hb =>?_) <;>try simp only[hb])|refine U.au (by decide +kernel) rfl fun K hK =>?_|(refine .aq [0,2,3,4,5,6,7,8,22] hK ?_;clear hK K)|(with_reducible refine .done (hK _ ?_);clear hK K)|refine U.of rfl ?_|(with_reducible refine aj.ar (fun h =>?_) (fun h =>?_) <;>try simp only[h])) <;>try simp only[av,R,simprocAttr])
  all_goals clear R
  all_goals rfl
theorem abW{A:ab}{l:List ah}{i:Nat}(h:i≤l.length):gH A 8 none (some (.int .i64 i)) (some (.int .i64 i)) (enc l)=some (if i=0 then .c0 8 else enc (l.take i)):=by
 simp only[gH,gO,show Enc.sz ah=8 from rfl,if_true,hJ,gy,zz2];rw[if_pos ⟨by omega,by omega,by omega,by omega⟩];by_cases h0:i=0
 ·simp[h0]
 ·rw[if_neg (by simp;omega),if_neg h0];simp
theorem abX{i:Nat}(l:List ah)(aE:Bool)(A:ab):bf aE A (if i=0 then .c0 8 else enc (l.take i))=some (enc (l.take i)):=by
 by_cases h0:i=0
 ·rw[if_pos h0,h0];simp only[bf];rfl
 ·rw[if_neg h0,jd]
end Go.Proofs.YtoffnnjbplgnaaaGreatDoor
namespace Go.Proofs.YtoffnnjbplgnaaaGreatDoor
open Go Go.Abs Go.Shelf Go.RowKit
open Go.Abs.Enc (enc)
def mn(r:ah):List Value:=[.int .i64 r.aT,.int .i64 r.no,.int .i64 r.kind,.int .i64 r.ee,.int .i64 r.known,.int .i64 r.eQ,.int .i64 r.fb,.string ⟨r.text.toArray⟩]
theorem aa3{w:World}{D:aJ}{E:aO}{r:ah}{cs:List Value}(h:ae w D E (enc r) cs):cs=mn r:=by
 obtain ⟨h1,_⟩:=EV (fD (v:=.agg cs.toArray) (by simp[bd,show (enc r:I).isAgg=true from rfl]) h);simp only[Value.agg.injEq] at h1;have:=congrArg Array.toList h1;simpa[mn] using this
theorem Ca{n:Int}(h:0≤n∧n<100000000):IntKind.i64.min≤n∧n≤IntKind.i64.max:=by
 have a:IntKind.i64.min=-9223372036854775808:=rfl;have b:IntKind.i64.max=9223372036854775807:=rfl;omega
theorem aa9{w:World}{D:aJ}{E:aO}{r:ah}(h:bm r=true):ae w D E (enc r) (mn r):=by
 have hn:=tq h;have ht:=tu h
 show ae w D E (.agg [.agg [.int .i64 r.aT,.int .i64 r.no],.int .i64 r.kind,.int .i64 r.ee,.int .i64 r.known,.agg [.int .i64 r.eQ,.int .i64 r.fb],.ay ⟨r.text.toArray⟩]) _
 have g:∀ n∈eP r,ae w D E (.int .i64 n) [.int .i64 n]:=fun n hn'=>⟨rfl,Ca (hn n hn')⟩
 simp only[ae,aI];refine ⟨[.int .i64 r.aT,.int .i64 r.no],_,rfl,⟨[.int .i64 r.aT],_,rfl,by simpa only[ae] using g r.aT (by simp[eP]),[.int .i64 r.no],[],rfl,by simpa only[ae] using g r.no (by simp[eP]),rfl⟩,
  [.int .i64 r.kind],_,rfl,by simpa only[ae] using g r.kind (by simp[eP]),[.int .i64 r.ee],_,rfl,by simpa only[ae] using g r.ee (by simp[eP]),[.int .i64 r.known],_,rfl,by simpa only[ae] using g r.known (by simp[eP]),
  [.int .i64 r.eQ,.int .i64 r.fb],_,rfl,⟨[.int .i64 r.eQ],_,rfl,by simpa only[ae] using g r.eQ (by simp[eP]),[.int .i64 r.fb],[],rfl,by simpa only[ae] using g r.fb (by simp[eP]),rfl⟩,
  [.string ⟨r.text.toArray⟩],[],rfl,⟨rfl,?_⟩,rfl⟩
 show r.text.toArray.size≤maxLen
 simp only[List.size_toArray,maxLen];omega
theorem JT{z:Int}(hz:0≤z∧z<1000003){r:ah}(h:bm r=true)(W:World)(hl:eK Tryz.prog W (fun _=>False)):Calls Tryz.prog 81 #[.int .i64 z,.agg (mn r).toArray] W fun e w'=>e=.returned (.tuple #[.string ⟨(dR z r).toArray⟩,.int .i64 (dy z (de r))])∧Below W.heap.size W w':=by
 have hc:=pH z hz r h;refine (hc.2 W (fun _ _=>False) [.int .i64 z,.agg (mn r).toArray] hl (fun _ _ h=>h.elim) ?_).mono ?_
 ·simp only[aB];refine ⟨_,_,[.int .i64 z],rfl,rfl,?_,_,_,mn r,rfl,by simp[bd,show (enc r:I).isAgg=true from rfl],aa9 h,rfl⟩
  show ae _ _ _ (.int .i64 z) _
  simp only[ae];exact ⟨trivial,Ca (by omega)⟩
 ·rintro e w' ⟨v,D',rfl,hv,hb,_⟩;refine ⟨?_,hb⟩;have hv':∃ vs:List Value,v=.tuple vs.toArray∧aB w' D' cA [enc (aD.of (dR z r)),enc (dy z (de r))] vs:=hv;obtain ⟨vs,rfl,h2⟩:=hv';simp only[aB] at h2;obtain ⟨v1,_,c1,rfl,p1,r1,v2,_,c2,rfl,p2,gX,rfl⟩:=h2;have r1':ae w' D' cA (.ay ⟨(dR z r).toArray⟩) c1:=r1;have r2':ae w' D' cA (.int .i64 (dy z (de r))) c2:=gX;simp only[ae] at r1' r2';obtain ⟨rfl,_⟩:=r1';obtain ⟨rfl,_⟩:=r2';simp[bd,show (enc (aD.of (dR z r)):I).isAgg=false from rfl,show (enc (dy z (de r)):I).isAgg=false from rfl] at p1 p2;subst p1 p2;rfl
def pL(w:World)(a:Option Addr)(l:List ah):Prop:=∀ (j:Nat) (h:j<l.length),∃ b off,a=some ⟨b,off,none⟩∧w.rangeAt b (off+j*8) (mn l[j])∧b<w.heap.size
theorem pL.later{w w':World}{a:Option Addr}{l:List ah}(h:pL w a l)(hb:Below w.heap.size w w'):pL w' a l:=by
 intro j hj;obtain ⟨b,off,h1,h2,h3⟩:=h j hj;refine ⟨b,off,h1,fun k v hk =>?_,Nat.lt_of_lt_of_le h3 hb.size⟩;have:=h2 k v hk;simp only[World.cell?] at this ⊢;rw[hb.block b h3];exact this
theorem abF{w:World}{D:aJ}(hD:∀ b o,D b o→b<w.heap.size){l:List ah}{v:Value}(h:aQ w D cA (enc l) v):∃ a cap,v=.slice a l.length cap∧pL w a l:=by
 have h':aQ w D cA (.slice 8 (l.map enc)) v:=h;obtain ⟨a,cap,h1,h2,h3,h4,h5⟩:=kT h';refine ⟨a,cap,by rw[h1,zz2],fun j hj =>?_⟩;rcases h4 with h4 | ⟨b,off,cs,rfl,h6,h7⟩
 ·rw[List.map_eq_nil_iff] at h4;rw[h4] at hj;exact absurd hj (by simp)
 ·obtain ⟨c2,k1,k2⟩:=vj (k:=j) (x:=enc l[j]) h6 h7 h5 (by simp[hj]);have e:=aa3 k2;subst e;refine ⟨b,off,rfl,fun k v hk=>(k1 k v hk).1,hD b (off+j*8+0) (k1 0 _ rfl).2⟩
theorem acj(l:List ah)(hl:l.length≤1000000)(h:∀ r∈l,bm r=true)(a:Option Addr)(cap:Nat)(w:World)(hL:eK Tryz.prog w (fun _=>False))(hR:pL w a l) :
  Calls Tryz.prog 135 #[.slice a l.length cap] w fun e w'=>e=.returned (.string ⟨(eJ 1 l).toArray⟩)∧Below w.heap.size w w':=by
 go_enter Tryz.func135,Tryz.ntmps135
 go_wp2
 go_loopw [4,10] (fun s i wr=>∃ j:Nat,j≤l.length∧i=.int .i64 j∧s=.int .i64 (dW 1 (l.take j))∧lg w.heap.size w.heap.size (eJ 1 (l.take j)) wr∧Below w.heap.size w wr) (fun _ i _=>l.length-(RowKit.intOf i).toNat)
 case atStart =>
  refine ⟨0,by omega,rfl,rfl,.inl ⟨by omega,.slice none 0 0,heap_alloc_new w _,⟨rfl,.inl ⟨rfl,rfl⟩⟩,by simp[Value.ownBlock]⟩,jB w _⟩
 case round =>
  obtain ⟨j,hj,rfl,rfl,hI,hbw⟩:=hrel;have hB1:w.heap.size≤wr.heap.size:=hbw.size;by_cases hlt:j<l.length
  ·obtain ⟨b,off,ha,hr,hb⟩:=hR.later hbw j hlt;subst ha;have hok:=h l[j] (zw3 hlt);have hst:=rr (l.take j);have hsn:=ue (l.take j) l[j] 1;rw[←iW hlt] at hsn;generalize l[j]=r at *;have hcall:=JT hst hok;have k0:wr.cell? ⟨b,off+j*8,none⟩=some (.int .i64 r.aT):=hr 0 _ rfl;have k1:wr.cell? ⟨b,off+j*8+1,none⟩=some (.int .i64 r.no):=hr 1 _ rfl;have k2:wr.cell? ⟨b,off+j*8+2,none⟩=some (.int .i64 r.kind):=hr 2 _ rfl;have k3:wr.cell? ⟨b,off+j*8+3,none⟩=some (.int .i64 r.ee):=hr 3 _ rfl;have k4:wr.cell? ⟨b,off+j*8+4,none⟩=some (.int .i64 r.known):=hr 4 _ rfl;have k5:wr.cell? ⟨b,off+j*8+5,none⟩=some (.int .i64 r.eQ):=hr 5 _ rfl;have k6:wr.cell? ⟨b,off+j*8+6,none⟩=some (.int .i64 r.fb):=hr 6 _ rfl;have k7:wr.cell? ⟨b,off+j*8+7,none⟩=some (.string ⟨r.text.toArray⟩):=hr 7 _ rfl;simp only[mn] at hcall;have hw:=dU (i:=j) (by omega);have hlt':decide ((j:Int)<(l.length:Int))=true:=eB hlt;have hll:=qA hst hok;have htl:=rv (l.take j) (s:=1) (by omega) fun q hq=>h q (List.mem_of_mem_take hq);have hli:(l.take j).length=j:=by rw[zy0];omega
   have hsz:(⟨(dR (dW 1 (l.take j)) r).toArray⟩:ByteArray).size=(dR (dW 1 (l.take j)) r).length:=by show (dR _ r).toArray.size=_;simp
   go_wp2_with (first | (go_at_call 81;refine (hcall _ (Cj hL (hbw.trans ((jB wr _).mono hB1)))).mono ?_;rintro e W1 ⟨rfl,hb1⟩) | (go_at_call 156;refine (F8 w.heap.size w.heap.size _ _ _ (sJ (sJ hI (jB wr _)) hb1) (by rw[hsz];omega) (by have:=hb1.size;simp at this;omega)).mono ?_;rintro e W2 ⟨rfl,hI2,hb2,hk2⟩))
   refine ⟨⟨j+1,by omega,rfl,?_,?_,?_⟩,by simp only[RowKit.intOf];omega⟩
   ·rw[hsn.2]
   ·rw[hsn.1];exact hI2
   ·exact ((hbw.trans ((jB wr _).mono hB1)).trans (hb1.mono (by simp;omega))).trans hb2
  ·have hge:j=l.length:=by omega
   subst hge;have hlt':decide ((l.length:Int)<(l.length:Int))=false:=by simp
   rw[List.take_length] at hI
   go_wp2_with (go_at_call 157;refine (yI w.heap.size w.heap.size _ _ hI hB1).mono ?_;rintro e W2 ⟨rfl,hI2,hb2,hk2⟩)
   go_ret
   exact ⟨rfl,hbw.trans hb2⟩
theorem xR(l:List ah)(hl:l.length≤1000000)(h:∀ r∈l,bm r=true):aK Tryz.prog 135 [enc l] (enc (aD.of (eJ 1 l))):=by
 refine ⟨IN,fun w D vs hL hD hv =>?_⟩;simp only[aB] at hv;obtain ⟨v,rest,cs,rfl,h1,h2,rfl⟩:=hv;obtain ⟨a,cap,rfl,hR⟩:=abF hD (fD h1 h2);refine (acj l hl h a cap w hL hR).mono ?_;rintro e w' ⟨rfl,hbl⟩;have hlen:=rv l (s:=1) (by omega) h;exact ⟨_,D,rfl,Fg (l:=eJ 1 l) (by unfold maxLen;omega),hbl,fun b o hd=>Nat.lt_of_lt_of_le (hD b o hd) hbl.size,fun _ _ h _=>h⟩
end Go.Proofs.YtoffnnjbplgnaaaGreatDoor
namespace Go.Proofs.YtoffnnjbplgnaaaGreatDoor
open Go Go.Abs
open Go.Abs.Enc (enc)
theorem Ay{c:UInt8} : ∀ {l:List UInt8},dz c l=none→∀ b∈l,b≠c
 | [],_=>by simp
 |b::l,h=>by
  rw[dz] at h;by_cases e:b=c
  ·rw[if_pos e] at h;cases h
  ·rw[if_neg e] at h;cases h2:dz c l with
   |some p=>rw[h2] at h;cases h
   |none =>
    intro x hx;rcases zw5.1 hx with rfl | hx
    ·exact e
    ·exact Ay h2 x hx
theorem r7{c:UInt8} : ∀ {l w v:List UInt8},dz c l=some (w,v)→l=w++c::v∧∀ b∈w,b≠c
 | [],_,_,h=>by simp[dz] at h
 |b::l,w,v,h=>by
  rw[dz] at h;by_cases e:b=c
  ·rw[if_pos e] at h;cases h;exact ⟨by rw[e];rfl,by simp⟩
  ·rw[if_neg e] at h;cases h2:dz c l with
   |none=>rw[h2] at h;cases h
   |some p =>
    obtain ⟨w2,v2⟩:=p;rw[h2,zy1] at h;cases h;obtain ⟨h3,h4⟩:=r7 h2;refine ⟨by rw[h3];rfl,fun x hx =>?_⟩;rcases zw5.1 hx with rfl | hx
    ·exact e
    ·exact h4 x hx
theorem vY{u:List UInt8}(h:dz 10 u=none):dI u=[]:=Cx (Ay h)
theorem sU{u w v:List UInt8}(h:dz 10 u=some (w,v)):dI u=(w++[10])::dI v:=by
 obtain ⟨rfl,h2⟩:=r7 h;exact Y9 v h2
def fF:Nat→List UInt8→List UInt8
 |0,t=>t
 |k+1,t=>match dz 10 t with
  |none=>t
  |some p=>fF k p.2
theorem wX:∀ {k:Nat} {t w v:List UInt8},dz 10 (fF k t)=some (w,v)→fF (k+1) t=v
 |0,t,w,v,h=>by rw[fF] at h;rw[fF,h];rfl
 |k+1,t,w,v,h=>by
  rw[fF] at h ⊢;cases h2:dz 10 t with
  |none=>rw[h2] at h;simp only at h;rw[h2] at h;cases h
  |some p=>rw[h2] at h;exact wX h
theorem wW:∀ {k:Nat} {t:List UInt8},k≤(dI t).length→dI (fF k t)=(dI t).drop k
 |0,t,_=>rfl
 |k+1,t,h=>by
  rw[fF];cases h2:dz 10 t with
  |none=>rw[vY h2] at h;simp at h
  |some p =>
   obtain ⟨w,v⟩:=p;rw[sU h2] at h ⊢;simp only[zw0] at h;exact wW (k:=k) (t:=v) (by omega)
theorem E6:∀ (k:Nat) (t:List UInt8),(fF k t).length≤t.length
 |0,_=>zz8 _
 |k+1,t=>by
  rw[fF];cases h2:dz 10 t with
  |none=>exact zz8 _
  |some p =>
   have:=r8 h2;have:=E6 k p.2;simp only;omega
def dx(u:List UInt8)(out:List ah)(s:Int)(z:Nat):List (Nat×ai):=[(1000001,.box (enc (aD.of u))),(1000004,.box (.own 1000080 out.length)),(1000080,.bM 50 8 (out.map enc)),(1000005,.box (.int .i64 s)),(1000006,.box (.int .i64 (z:Int)))]
theorem nS(u:List UInt8)(out:List ah)(s:Int)(z:Nat)(u':List UInt8)(out':List ah)(s':Int)(z':Nat):dM (dx u out s z) (dx u' out' s' z'):=by
 refine ⟨fun n=>by simp only[dx,aw,aG];(repeat' split) <;>rfl,fun n x h =>?_,fun n h =>?_⟩
 ·simp only[dx,aG] at h
  repeat' split at h
  all_goals first | (cases h;done) | (simp only[v6] at h;subst h;exact ⟨by simp[dx,aw,aG,ai.only,bt,I.only,eR],rfl⟩)
 ·simp only[dx,aw,aG] at h
  repeat' split at h
  all_goals first | omega | (simp at h;done)
section
variable (t:List UInt8) (P:Nat→List ah→Int→Nat→Prop) (bj:List ah→Nat→Prop)
def sH(k:Nat)(os:List (Nat×ai)):Prop:=∃ out s z,os=dx (fF k t) out s z∧P k out s z
def sI(k:Nat)(os:List (Nat×ai)):Prop:=∃ out s z,os=dx (fF k t) out s z∧P (k+1) out s z
def qp(e:Option Nat)(os:List (Nat×ai)):Prop:=e=some 0∧∃ u out s z,os=dx u out s z∧bj out z
def oP(k:Nat):List I:=[enc (aD.of ((dI t).getD k []))]
end
def Fo(o:Obj)(v:Value)(t:List UInt8)(x:Nat×List ah×Int×Nat):ab:=al [(0,.raw v),(1,.ptr 1000001 [])] (bE o (dx (fF x.1 t) x.2.1 x.2.2.1 x.2.2.2))
theorem B1{o:Obj}{u:List UInt8}{out:List ah}{s:Int}{z:Nat}{ts:List (Nat×I)} : ∀ n x,aG (bE o (dx u out s z)) n=some x→(al ts (bE o (dx u out s z))).o n=some x∧x.only (aw (bE o (dx u out s z)))=true∧x.dO=true:=fun n x h =>
 ⟨h,(((nS u out s z u out s z).bE o o).ok n x h)⟩
theorem ab7:∀ A n b rest (x y:List UInt8),dT A none n [] b (enc (aD.of x)) rest (some (enc (aD.of y)))=aA rest (A.aN n (.box (enc (aD.of x)))) :=
 fun A n b rest x y=>by rw[fg (s:=none) (v:=enc (aD.of x)) (old:=enc (aD.of y)) (eW _) rfl rfl,ff]
theorem Za{t:List UInt8}(ht:t.length≤281474976710656){P:Nat→List ah→Int→Nat→Prop}{bj:List ah→Nat→Prop}{out0:List ah}{s0:Int}{z0:Nat}(h0:P 0 out0 s0 z0)
  (Y:Value→List I→List (Nat×ai)→cd→Prop) (v:Value) (o:Obj) (oX:Option Nat→Obj) (hv:v.oneCell'=true)
  (hY:∀ k osb post,k<(dI t).length→sH t P k osb→(∀ r os2,(r=.bool true∧∃ osb2,os2=bE o osb2∧sI t P k osb2)∨(r=.bool false∧∃ e osb2,os2=bE (oX e) osb2∧qp bj e osb2)→post r os2)→Y v (oP t k) (bE o osb) post) :
  iH Tryz.prog 122 Y [.raw v,.ptr 1000001 []] (bE o (dx t out0 s0 z0)) (fun r os'=>r=.tuple []∧((∃ osb,os'=bE o osb∧sH t P (dI t).length osb)∨∃ e osb,os'=bE (oX e) osb∧qp bj e osb)):=by
 refine iH.bJ Tryz.func122 Ac J6 Ly (t7 rfl) (t7 rfl) (((nS t out0 s0 z0 t out0 s0 z0).bE o o).j5) (fun hwf W0 bC E1 =>?_);simp only[yY,DC,bA,zz3];clear hwf;refine U.block (U.loop (Fo o v t) (fun x=>x.1≤(dI t).length∧P x.1 x.2.1 x.2.2.1 x.2.2.2) (fun x=>(dI t).length-x.1) (0,out0,s0,z0) ⟨by simp,h0⟩ ?_ ?_)
 ·exact bn.refl _
 rintro ⟨k,out,s,z⟩ ⟨hk,hP⟩;simp only at hk hP;have hrl:=E6 k t;have hrd:=wW hk;have hrn:=fun w v=>wX (k:=k) (t:=t) (w:=w) (v:=v);obtain ⟨u,hu⟩:∃ u,u=fF k t:=⟨_,rfl⟩
 have hfin:dI u=[]→∃ osb,bE o (dx u out s z)=bE o osb∧sH t P (dI t).length osb:=fun e=>by
  rw[hu,hrd,List.drop_eq_nil_iff] at e;have:k=(dI t).length:=by omega
  exact ⟨_,rfl,out,s,z,by rw[←this,←hu],by rw[←this];exact hP⟩
 simp only[Fo,←hu];rw[←hu] at hrl hrd hrn;have heldF:=fun ts=>B1 (o:=o) (u:=u) (out:=out) (s:=s) (z:=z) (ts:=ts);rcases hq:decide (u=[])
 rotate_left
 ·have hu0:u=[]:=of_decide_eq_true hq;have hf:=hfin (by rw[hu0];exact Cx (by simp));simp only[bE,dx] at hf heldF ⊢;have R:=y6 @iL (y6 @iT (y6 @hq (y6 @bu ak)))
  repeat' ((first |(with_reducible refine .guard (fun hb =>?_) (fun hb =>?_) <;>try simp only[hb])|refine U.au (by decide +kernel) rfl fun K hK =>?_|(refine .aq [0,1,3,5,18] hK ?_;clear hK K)|(with_reducible refine .done (hK _ ?_);clear hK K)|refine U.of rfl ?_|(with_reducible refine aj.ar (fun h =>?_) (fun h =>?_) <;>try simp only[h])) <;>try simp only[av,R,simprocAttr])
  all_goals clear R
  rw[E8];exact ⟨_,[],heldF _,trivial,rfl,.inl hf⟩
 have hF:=Gn (aD.of u) 10;rw[aD.dC] at hF;rcases r6 10 u with ⟨h1,h2⟩ | ⟨i,hi,h2,h1⟩
 ·have hf:=hfin (vY h1);obtain ⟨n,hn1⟩:∃ n:Int,n=-1:=⟨_,rfl⟩
  rw[h2,←hn1] at hF;have hneg:decide (n<0)=true:=by rw[hn1];rfl
  simp only[bE,dx] at hf heldF ⊢;have R:=y6 @iL (y6 @iT (y6 @hq (y6 @hneg (y6 @bu ak))))
  repeat' ((first |(with_reducible refine .guard (fun hb =>?_) (fun hb =>?_) <;>try simp only[hb])|refine U.au (by decide +kernel) rfl fun K hK =>?_|refine .flat _ (hF) rfl ?_|(refine .aq [0,1,3,5,18] hK ?_;clear hK K)|(with_reducible refine .done (hK _ ?_);clear hK K)|refine U.of rfl ?_|(with_reducible refine aj.ar (fun h =>?_) (fun h =>?_) <;>try simp only[h])) <;>try simp only[av,R,simprocAttr])
  all_goals clear R
  rw[iR];exact ⟨_,[],heldF _,trivial,rfl,.inl hf⟩
 rw[h2] at hF;have hlt:k<(dI t).length:=by
  have:=congrArg List.length hrd;rw[sU h1,zx5] at this;simp only[zw0] at this;omega
 have jg:oP t k=[enc (aD.of (u.take (i+1)))]:=by
  have e:(dI t)[k]=u.take i++[10]:=by
   have h3:=hrd;rw[sU h1,List.drop_eq_getElem_cons hlt] at h3;exact (List.cons.inj h3).1.symm
  have h10:u[i]=10:=by
   obtain ⟨e1,_⟩:=r7 h1;have:=congrArg (fun l=>l[i]?) e1;simp only[zz5 hi] at this;rw[List.getElem?_append_right (by rw[zy0];omega),zy0,show i-min i u.length=0 by omega] at this;exact Option.some.inj this
  rw[oP,zz6,zz5 hlt,Option.getD_some,e,iW hi,h10]
 have hlz:decide ((i:Int)<0)=false:=decide_eq_false (by omega);have hw:=dU (i:=i) (by omega);have hsh:=re (aD.of u) (j:=i+1) (by rw[aD.dC];omega);have hsl:=xe (aD.of u) (i:=i+1) (by rw[aD.dC];omega);rw[aD.dC] at hsh hsl;have hyy:=hY k (dx u out s z) _ hlt ⟨out,s,z,by rw[←hu],hP⟩ (fun r os2 h=>h);rw[jg] at hyy;simp only[bE,dx] at hyy ⊢;have R:=y6 @iL (y6 @iT (y6 @hq (y6 @hlz (y6 @hw (y6 @hsh (y6 @Ak (y6 @bu ak)))))))
 repeat' ((first |(with_reducible refine .guard (fun hb =>?_) (fun hb =>?_) <;>try simp only[hb])|refine U.au (by decide +kernel) rfl fun K hK =>?_|refine .flat _ (hF) rfl ?_|(refine .aq [0,1,3,5,18] hK ?_;clear hK K)|(with_reducible refine .done (hK _ ?_);clear hK K)|refine U.of rfl ?_|(with_reducible refine aj.ar (fun h =>?_) (fun h =>?_) <;>try simp only[h])) <;>try simp only[av,R,simprocAttr])
 all_goals clear R
 refine ba.Gb (ow:=[]) (In:=fun os2=>∃ osb2,os2=bE o osb2∧sI t P k osb2) (Ix:=fun os2=>∃ e osb2,os2=bE (oX e) osb2∧qp bj e osb2) hyy ((nS t out0 s0 z0 u out s z).bE o o) (fun os' h =>?_) (fun os' h =>?_) (by simp[I.b7,gN]) (fun m h=>by simp[aw,aG] at h) (fun os2 h =>?_) (fun os2 h =>?_)
 ·obtain ⟨_,rfl,out',s',z',rfl,_⟩:=h;exact (nS ..).bE _ _
 ·obtain ⟨e,_,rfl,_,u',out',s',z',rfl,_⟩:=h;exact (nS ..).bE _ _
 ·obtain ⟨_,rfl,out',s',z',rfl,hP'⟩:=h;rw[←hu]
  try simp only[bE,dx,zy4,aU,simprocAttr]
  refine .done (hK _ ?_);clear hK K;have hn:=hrn _ _ h1;have R:=y6 @hw (y6 @hsl (y6 @hlz (y6 @ab7 (y6 @bu ak))))
  repeat' ((first |(with_reducible refine .guard (fun hb =>?_) (fun hb =>?_) <;>try simp only[hb])|refine U.au (by decide +kernel) rfl fun K hK =>?_|(refine .aq [0,1,3,5,18] hK ?_;clear hK K)|(with_reducible refine .done (hK _ ?_);clear hK K)|refine U.of rfl ?_|(with_reducible refine aj.ar (fun h =>?_) (fun h =>?_) <;>try simp only[h])) <;>try simp only[av,R,simprocAttr])
  all_goals clear R
  refine ⟨(k+1,out',s',z'),⟨by simp only;omega,hP'⟩,by simp only;omega,?_⟩;simp only[hn];refine bn.slots ?_ (fun n =>?_)
  ·simp[bK,bI]
  ·simp only[cL];(repeat' split) <;>simp_all
 ·obtain ⟨e,_,rfl,he,u',out',s',z',rfl,hF'⟩:=h
  try simp only[bE,dx,zy4,aU,simprocAttr]
  refine .done (hK _ ?_);clear hK K;have R:=y6 @bu ak
  repeat' ((first |(with_reducible refine .guard (fun hb =>?_) (fun hb =>?_) <;>try simp only[hb])|refine U.au (by decide +kernel) rfl fun K hK =>?_|(refine .aq [0,1,3,5,18] hK ?_;clear hK K)|(with_reducible refine .done (hK _ ?_);clear hK K)|refine U.of rfl ?_|(with_reducible refine aj.ar (fun h =>?_) (fun h =>?_) <;>try simp only[h])) <;>try simp only[av,R,simprocAttr])
  all_goals clear R
  rw[iR];exact ⟨_,[],B1 (o:=oX e) (u:=u') (out:=out') (s:=s') (z:=z'),trivial,rfl,.inr ⟨e,_,rfl,he,u',out',s',z',rfl,hF'⟩⟩
def aaH(t:List UInt8):cd:=fun r os'=>r=.func 122 [.ptr 1 []]∧os'=[(1,.box (enc (aD.of t)))]
theorem GX(t:List UInt8):eU Tryz.prog 69 [enc (aD.of t)] [] (aaH t):=by
 refine eU.bJ Tryz.func69 Js KP Mj (t7 rfl) (t7 rfl) (fun m hm=>by simp[aw,aG] at hm) (fun hwf W0 bC E1 =>?_);simp only[zJ,Es,bA];clear hwf;have hall:([I.ptr 1 []].all fun y=>y.cn)=true:=rfl;have R:=y6 @hall (y6 @bu ak)
 repeat' ((first |refine U.au (by decide +kernel) rfl fun K hK =>?_|(refine .aq [0,1,2] hK ?_;clear hK K)|(with_reducible refine .done (hK _ ?_);clear hK K)|refine U.of rfl ?_|(with_reducible refine aj.ar (fun h =>?_) (fun h =>?_) <;>try simp only[h])) <;>try simp only[av,R,simprocAttr])
 all_goals clear R
 exact ⟨[(1,.box (enc (aD.of t)))],[.func 122 [.ptr 1 []]],mz rfl (fun p=>bt _ _),⟨⟨_,rfl,.inl ⟨rfl,rfl,rfl⟩⟩,trivial⟩,rfl,rfl⟩
end Go.Proofs.YtoffnnjbplgnaaaGreatDoor
