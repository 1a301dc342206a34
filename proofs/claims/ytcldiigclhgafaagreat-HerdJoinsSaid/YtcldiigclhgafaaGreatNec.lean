/-
  A part of the proof that the law HerdJoins returns true for every input; conditions: none beyond the statement's own. (part 3 of 7)
-/
import Derived.RangeFuncIn
import Derived.Laws.Externs
import Derived.ProofKit
import Derived.SizedLaws
import Derived.KernelRfl
import Derived.Test.YtcldiigclhgafaaGreatChecked
import Derived.Test.YtcldiigclhgafaaGreatNeb
set_option linter.unusedSimpArgs false
set_option linter.unusedVariables false
set_option maxHeartbeats 16000000
set_option maxRecDepth 100000
namespace Go.Abs
open Go Go.RowKit
open Enc (enc)
mutual
theorem jg{p q:Nat→Bool}(h:∀ n,p n=true→q n=true):∀ x:I,x.only p=true→x.only q=true
 | .agg fs,hx | .tuple fs,hx=>by simp only[I.only] at *;exact iO h fs hx
 | .slice _ es,hx=>by simp only[I.only] at *;exact iO h es hx
 | .ref x,hx=>by simp only[I.only] at *;exact jg h x hx
 | .func _ caps,hx=>by simp only[I.only] at *;exact iO h caps hx
 | .iface _ v,hx=>by simp only[I.only] at *;exact jg h v hx
 | .ptr _ _,hx | .own _ _,hx | .view _ _ _ _ _,hx | .mref _,hx | .dv _,hx=>by simp only[I.only] at *;exact h _ hx
 | .cT ks vs,hx=>by simp only[I.only,Bool.and_eq_true] at *;exact ⟨iO h ks hx.1,iO h vs hx.2⟩
 | .bool _,_ | .int _ _,_ | .cY _,_ | .nilp,_ | .dh,_ | .dX,_ | .raw _,_ | .nils _,_ | .c0 _,_ | .undef,_ | .df,_=>by simp[I.only]
theorem iO{p q:Nat→Bool}(h:∀ n,p n=true→q n=true):∀ xs:List I,I.bR p xs=true→I.bR q xs=true
 | [],_=>rfl
 |x::xs,hx=>by
  simp only[I.bR,Bool.and_eq_true] at *
  exact ⟨jg h x hx.1,iO h xs hx.2⟩
end
theorem ai.jg{p q:Nat→Bool}(h:∀ n,p n=true→q n=true)(x:ai)(hx:x.only p=true):x.only q=true:=by
 cases x with
 |box y=>simp only[ai.only] at *;exact Abs.jg h y hx
 |bT T sz es=>simp only[ai.only] at *;exact iO h es hx
 |dO o=>rfl
 |cV T xs=>rfl
 |cz ks vs=>simp only[ai.only,Bool.and_eq_true] at *;exact ⟨iO h ks hx.1,iO h vs hx.2⟩
 |it ks vs left cur=>simp only[ai.only,Bool.and_eq_true] at *;exact ⟨iO h ks hx.1,iO h vs hx.2⟩
theorem KA{x:I}(h:x.bB=true):x.cj=true:=by
 cases x <;>first | rfl | simp[I.bB] at h
theorem vt{aC:Bool}{A0:af}{ρ:List (Nat×Nat)}{os:List (Nat×ai)} : ∀ xs:List I,I.bX xs=true→jt aC A0 ρ os xs xs
 | [],_=>trivial
 |x::xs,h=>by
  simp only[I.bX,Bool.and_eq_true] at h
  exact ⟨.inl ⟨(rS _ x h.1).symm,mS _ x h.1,KA h.1⟩,vt xs h.2⟩
structure fA (os os':List (Nat×ai)):Prop where
 same:∀ m,au os' m=au os m
 ok:∀ m x,al os' m=some x→x.only (au os')=true∧x.eS=true
 oB:∀ m,au os m=true→1000000≤m
def vi(P:Program)(g:FuncId)(caps:List I)(N:Nat)(item:Nat→List I):Prop :=
 ∀ (Y:Value→List I→List (Nat×ai)→cR→Prop) (v:Value) (aj:Nat→List (Nat×ai)→Prop) (Ix:List (Nat×ai)→Prop) (os:List (Nat×ai)),v.oneCell'=true →
  (∀ k os' post,k<N→aj k os'→(∀ r os2,(r=.bool true∧aj (k+1) os2)∨(r=.bool false∧Ix os2)→post r os2)→Y v (item k) os' post) →
  (∀ k os',aj k os'→fA os os')→(∀ os',Ix os'→fA os os')→aj 0 os→kK P g Y (.raw v::caps) os (fun r os'=>r=.tuple []∧(aj N os'∨Ix os'))
def dI(o:Obj)(os:List (Nat×ai)):List (Nat×ai):=(1999999,.dO o)::os
theorem lV(o:Obj)(os:List (Nat×ai))(m:Nat):au (dI o os) m=(decide (m=1999999)||au os m):=by
 simp only[dI,au,al]
 by_cases h:m=1999999 <;>simp[h]
theorem pX(o:Obj)(os:List (Nat×ai))(m:Nat):al (dI o os) m=if m=1999999 then some (.dO o) else al os m:=rfl
theorem fA.dI{os os':List (Nat×ai)}(h:fA os os')(o o':Obj):fA (dI o os) (dI o' os'):=by
 refine ⟨fun m=>by rw[lV,lV,h.same],fun m x hx =>?_,fun m hm =>?_⟩
 ·rw[pX] at hx
  split at hx
  ·cases hx;exact ⟨rfl,rfl⟩
  ·obtain ⟨h1,h2⟩:=h.ok m x hx
   exact ⟨x.jg (fun n hn=>by rw[lV,hn];simp) h1,h2⟩
 ·rw[lV] at hm
  simp only[Bool.or_eq_true,decide_eq_true_eq] at hm
  rcases hm with rfl | hm
  ·decide
  ·exact h.oB m hm
def rP:List Nat→List I→List (Nat×I)→List (Nat×I)
 |p::ps,v::vs,ts=>rP ps vs ((p,v)::ts)
 |_,_,ts=>ts
def nd(ρ:List (Nat×Nat))(p:Nat→Bool)(ts:List (Nat×I)):List (Nat×I)→Prop
 | []=>True
 |(k,v)::r=>cn ts k=v.aR (bD ρ)∧v.only p=true∧nd ρ p ts r
theorem OF{ρ:List (Nat×Nat)}{p:Nat→Bool}{ts:List (Nat×I)} : ∀ {tsR:List (Nat×I)},nd ρ p ts tsR→∀ k,cn tsR k=.df∨(cn ts k=(cn tsR k).aR (bD ρ)∧(cn tsR k).only p=true)
 | [],_,k=>.inl rfl
 |(j,v)::r,h,k=>by
  simp only[nd] at h
  simp only[cn]
  split
  ·rename_i hk;subst hk;exact .inr ⟨h.1,h.2.1⟩
  ·exact OF h.2.2 k
section
variable {c:cQ} {a:Act} {w:World} {D:aN} {E:aZ}
theorem aT.zA{A:af}(h:aT c A a w D E){n b:Nat}{o o':Obj}(hn:A.o n=some (.dO o))(aw:E n=some (.op b))(ho:pT o'=true):aT c (A.aK n (.dO o')) a (w.putObj b o') D E:=by
 have hob:=h.bS n
 rw[hn] at hob
 obtain ⟨b',k1,k2,k3,k4,k5⟩:=hob
 rw[aw] at k1
 cases k1
 have hnc:o.isCells=false:=by cases o <;>first | rfl | cases k4
 have hlt:b<w.heap.size:=gb k3
 have hl:dS w D E (w.putObj b o') D E:=⟨fun _ _ h=>h,fun b1 o1 v _ hv=>vL k3 hnc hv,fun _ _ _ h=>h,fun _ aE l h=>⟨aE,l,h,Nat.le_refl _,fun _=>rfl⟩,fun _ _ h=>h,fun _ _ h=>h,fun b1 es ck hd hm=>(World.putObj_heap_other (fun e1=>k5 0 (by rw[←e1];exact hd))).trans hm⟩
 refine ⟨h.sz,h.eV.mono fun B _ hB=>(World.putObj_heap_other (fun e=>by rw[e,k3] at hB;cases hB;cases k4)).trans hB,fun t=>aW.bL hl (h.ew t),h.dZ.trans ⟨rfl,rfl,rfl,by simp,fun k hk=>World.putObj_heap_other (fun e=>hk (e▸k2))⟩,h.c6,
  fun b1 o1 hd=>by have:=h.dg b1 o1 hd;simpa using this,fun m =>?_,h.cU,h.eb,h.ff,h.cL,h.fk,h.lu hl⟩
 simp only[af.aK]
 by_cases hm:m=n
 ·subst hm
  simp only[if_true,c9]
  exact ⟨b,aw,k2,World.putObj_heap_same hlt,ho,k5⟩
 ·simp only[if_neg hm]
  exact (h.bS m).bL hl rfl fun e b1 he hb=>⟨World.putObj_heap_other (fun e1=>hm (h.cU m n e _ b1 he aw hb (by rw[e1];rfl))),fun _ ho=>ho⟩
theorem aT.Y2{A:af}(h:aT c A a w D E){n b:Nat}(aw:E n=some (.op b)):aT c ⟨A.t,fun m=>if m=n then none else A.o m⟩ a w D (fun m=>if m=n then none else E m):=by
 have hne:∀ {m:Nat} {e:bU},E m=some e→(∀ b,e≠.op b)→m≠n:=fun he h2 e'=>by
  subst e';rw[aw] at he;cases he;exact h2 _ rfl
 have hl:dS w D E w D (fun m=>if m=n then none else E m):=by
  refine ⟨fun _ _ h=>h,fun _ _ _ _ h=>h,fun m b aP he =>?_,fun m aE l he=>⟨aE,l,?_,Nat.le_refl _,fun _=>rfl⟩,fun m b he =>?_,fun m b he =>?_,fun _ _ _ _ h=>h⟩
  ·simp only[if_neg (hne he (fun b=>by simp))];exact he
  ·simp only[if_neg (hne he (fun b=>by simp))];exact he
  ·simp only[if_neg (hne he (fun b=>by simp))];exact he
  ·simp only[if_neg (hne he (fun b=>by simp))];exact he
 refine ⟨h.sz,h.eV,fun t=>aW.bL hl (h.ew t),h.dZ,h.c6,h.dg,fun m =>?_,fun m m' e e' b h1 h2 h3 h4 =>?_,fun m e hm =>?_,h.ff,h.cL,h.fk,h.fL⟩
 ·by_cases hm:m=n
  ·simp only[hm,if_true,c9]
  ·simp only[if_neg hm]
   exact (h.bS m).bL hl (by simp only[if_neg hm]) fun _ _ _ _=>⟨rfl,fun _ ho=>ho⟩
 ·split at h1
  ·cases h1
  ·split at h2
   ·cases h2
   ·exact h.cU m m' e e' b h1 h2 h3 h4
 ·by_cases hmn:m=n
  ·left;simp only[hmn,if_true]
  ·simp only[if_neg hmn];exact h.eb m e hm
theorem aT.enter{ts:List (Nat×I)}{os0:List (Nat×ai)}(h:aT c (av ts os0) a w D E)(hfree:al os0 999999=none)(hE0:c.dK 999999=none){o:Obj}(ho:pT o=true) :
  ∃ E1,aT c (av ts ((999999,.dO o)::os0)) { a with defers := { target:=.collected w.heap.size,args := #[] } :: a.defers } ((w.alloc (.deferred (some []))).alloc o) D E1∧E1 999999=some (.op (w.heap.size+1))∧∀ xs vs,aF w D E xs vs→aF ((w.alloc (.deferred (some []))).alloc o) D E1 xs vs:=by
 have hb:Below w.heap.size w ((w.alloc (.deferred (some []))).alloc o):=((Below.refl _ w).alloc (Nat.le_refl _) _).alloc (by simp) _
 have h1:=h.grow (D':=D) hb (fun _ _ h=>h) (fun _ _ h _=>h) (fun b o' hd=>by have:=h.dg b o' hd;simp;omega)
 obtain ⟨W,hW⟩:∃ W,W=(w.alloc (.deferred (some []))).alloc o:=⟨_,rfl⟩
 have hL:W.heap[w.heap.size+1]?=some o:=by
  rw[hW];have:=World.alloc_heap_new (w.alloc (.deferred (some []))) o;rwa [World.size_alloc] at this
 have hK:W.heap[w.heap.size]?=some (.deferred (some [])):=by
  rw[hW];exact (Below.heap_alloc _ _ _ (by simp)).trans (World.alloc_heap_new w _)
 rw[←hW] at h1 hb ⊢
 have hEn:E 999999=none:=by have:=h.bS 999999;simp only[av,hfree] at this;exact this
 have hl:dS W D E W D (fun m=>if m=999999 then some (.op (w.heap.size+1)) else E m):=by
  refine ⟨fun _ _ h=>h,fun _ _ _ _ h=>h,fun m b aP he =>?_,fun m aE l he=>⟨aE,l,?_,Nat.le_refl _,fun _=>rfl⟩,fun m b he =>?_,fun m b he =>?_,fun _ _ _ _ h=>h⟩
  all_goals
   have:m≠999999:=fun e=>by rw[e,hEn] at he;cases he
   simp only[if_neg this];exact he
 have hsz:c.fj.heap.size≤w.heap.size:=h.dZ.size
 have nb:∀ {m:Nat} {e:bU} {b:Nat},E m=some e→e.aE=some b→b<w.heap.size:=fun he hb'=>h.fY he hb'
 refine ⟨fun m=>if m=999999 then some (.op (w.heap.size+1)) else E m,⟨h1.sz,?_,fun t=>aW.bL hl (h1.ew t),h1.dZ,h1.c6,h1.dg,fun m =>?_,fun m m' e e' b g1 g2 g3 g4 =>?_,fun m e hm =>?_,h1.ff,h1.cL,h1.fk,h1.fL⟩,by simp,fun xs vs hx=>aF.bL hl xs vs (aF.bL (dS.grow hb fun _ _ h=>h) xs vs hx)⟩
 ·obtain ⟨Bs,k1,k2,k3⟩:=h1.eV
  refine ⟨w.heap.size::Bs,by simp only[List.map_cons];rw[←k1],List.nodup_cons.2 ⟨fun hin =>?_,k2⟩,fun B hB =>?_⟩
  ·obtain ⟨Bs',j1,_,j3⟩:=h.eV
   have e1:Bs=Bs':=by
    have:Bs.map (fun B=>({ target:=.collected B,args := #[] } : Deferred))=Bs'.map (fun B => { target:=.collected B,args := #[] }):=by rw[←k1,←j1]
    exact (List.map_inj_right (fun x y hxy=>by simpa using hxy)).1 this
   rw[e1] at hin
   have:=gb (j3 _ hin).2
   omega
  ·rcases List.mem_cons.1 hB with rfl | hB
   ·exact ⟨hsz,hK⟩
   ·exact k3 B hB
 ·simp only[av,al]
  by_cases hm:m=999999
  ·subst hm
   simp only[if_true,c9]
   exact ⟨_,rfl,.inl (by omega),hL,ho,fun o' hd=>by have:=h.dg _ o' hd;omega⟩
  ·simp only[if_neg hm]
   exact (h1.bS m).bL hl (by simp only[if_neg hm]) fun _ _ _ _=>⟨rfl,fun _ ho=>ho⟩
 ·by_cases hm:m=999999 <;>by_cases hm':m'=999999
  ·rw[hm,hm']
  ·simp only[if_pos hm,Option.some.injEq] at g1
   simp only[if_neg hm'] at g2
   subst g1
   simp only[bU.aE,Option.some.injEq] at g3
   have:=nb g2 g4;omega
  ·simp only[if_neg hm] at g1
   simp only[if_pos hm',Option.some.injEq] at g2
   subst g2
   simp only[bU.aE,Option.some.injEq] at g4
   have:=nb g1 g3;omega
  ·simp only[if_neg hm] at g1;simp only[if_neg hm'] at g2;exact h.cU m m' e e' b g1 g2 g3 g4
 ·have hmn:m≠999999:=fun e=>by rw[e,hE0] at hm;cases hm
  simp only[if_neg hmn]
  exact h.eb m e hm
theorem c9.mN{M M':Nat→Prop}{n:Nat}{x:Option ai}(h:c9 M w D E n x)(hM:∀ e b,E n=some e→e.aE=some b→M' b):c9 M' w D E n x:=by
 unfold c9 at *
 split
 ·exact h
 ·obtain ⟨b,cs,T,h1,_,h3⟩:=h
  exact ⟨b,cs,T,h1,hM _ b h1 rfl,h3⟩
 ·obtain ⟨aE,h1,h2,h3⟩:=h
  refine ⟨aE,h1,h2,?_⟩
  split
  ·exact h3
  ·obtain ⟨cs,pre,rest,_,h4⟩:=h3
   exact ⟨cs,pre,rest,hM _ _ h1 rfl,h4⟩
 ·obtain ⟨b,h1,_,h3⟩:=h
  exact ⟨b,h1,hM _ b h1 rfl,h3⟩
 ·obtain ⟨b,es,ck,h1,_,h3⟩:=h
  exact ⟨b,es,ck,h1,hM _ b h1 rfl,h3⟩
 ·obtain ⟨r,b,es,ck,si,se,la,h1,_,h3⟩:=h
  exact ⟨r,b,es,ck,si,se,la,h1,hM _ r h1 rfl,h3⟩
 ·obtain ⟨aE,h1,h2,h3⟩:=h
  refine ⟨aE,h1,h2,?_⟩
  split
  ·exact h3
  ·obtain ⟨cs,m,_,h4⟩:=h3
   exact ⟨cs,m,hM _ _ h1 rfl,h4⟩
theorem aT.L3{os:List (Nat×ai)} : ∀ (ps:List Nat) (vs:List Value) (xs:List I) (ts:List (Nat×I)) (a:Act),aT c (av ts os) a w D E→(∀ p∈ps,p<c.n)→aF w D E xs vs→ps.length=vs.length →
  aT c (av (rP ps xs ts) os) { a with tmps:=(ps.zip vs).foldl (fun t q=>t.setIfInBounds q.1 q.2) a.tmps } w D E
 | [],[],xs,ts,a,h,_,hv,_=>by
  cases xs with
  |nil=>exact h
  |cons x xs=>simp[aF] at hv
 | [],_::_,_,_,_,_,_,_,hl=>by simp at hl
 |_::_,[],_,_,_,_,_,_,hl=>by simp at hl
 |p::ps,v::vs,xs,ts,a,h,hp,hv,hl=>by
  cases xs with
  |nil=>simp[aF] at hv
  |cons x xs =>
   simp only[aF] at hv
   obtain ⟨v',rest,cs,e,h1,h2,h3⟩:=hv
   simp only[List.cons.injEq] at e
   obtain ⟨rfl,rfl⟩:=e
   have h4:=h.put (hp p (by simp)) (mO h1 h2)
   rw[tQ] at h4
   have:=aT.L3 ps vs xs ((p,x)::ts) (a.put (some p) v) h4 (fun q hq=>hp q (by simp[hq])) h3 (by simpa using hl)
   exact this
end
end Go.Abs
namespace Go.Abs
open Go Go.RowKit
def jm:b8→Bool
 | .mv _ | .pick .. | .bin .. | .eqv .. | .conv .. | .un .. | .fl .. | .ix .. | .lenT _ | .bld .. | .ext .. | .mk .. | .nilC _ | .ptrE .. =>true
 | .ld .. | .fa .. | .ia .. | .is .. | .len _ | .va .. | .bs .. | .sl .. | .cap _ | .bs0 _ | .lk .. =>true
 |_=>false
def ug:b8→Bool
 | .alloc _ | .box _ | .bu .. | .call .. | .eD .. | .dC .. =>true
 |op=>jm op
def pV(hs:List FuncId):b8→Bool
 | .alloc _ | .box _=>true
 | .call f _ => !hs.contains f
 |op=>jm op
abbrev eZ:=List (Nat×List Nat)
def jB(ay:eZ)(s:Nat):Option (List Nat):=(ay.find? fun q=>q.1==s).map (·.2)
def eU(ay:eZ)(A:af):Prop:=∀ s ns,jB ay s=some ns→(A.t s).only (fun n=>ns.contains n)=true
def rz(ay:eZ):aH→Option (List Nat)
 | .t s=>jB ay s
 | .c x=>if x.bB then some [] else none
def uU(a:Option (List Nat))(ns:List Nat):Bool:=match a with
 |some ms=>ms.all fun m=>ns.contains m
 |none=>false
def jF(ay:eZ)(g:aB):Bool:=match g.dst with
 |none=>true
 |some d=>match jB ay d with
  |none=>true
  |some ns=>match g.op with
   | .mv x | .nilC x | .fa _ _ x | .ia _ _ x _=>uU (rz ay x) ns
   | .bin .. | .len _ | .bs .. | .bs0 _ | .conv .. | .lenT _=>true
   | .box _ | .alloc _=>ns.contains d
   |_=>false
def nN:b8→Option (List Nat)
 | .ld _ (.t x) | .fa _ _ (.t x) | .ia _ _ (.t x) _ | .is _ (.t x) _ | .len (.t x) | .va _ _ (.t x) | .sl _ (.t x) _ _ _ | .cap (.t x) | .lk _ _ _ (.t x) _=>some [x]
 | .bs _ ps=>if (ps.all fun x=>match x with | .t _=>true | .c _=>false)=true then some (j9 ps) else none
 | .bs0 _=>some []
 |op=>if op.gK=0∧jm op=true then some [] else none
def sD(ay:eZ)(g:aB)(p:Nat→Bool):Bool:=match nN g.op with
 |some xs=>xs.all fun s=>match jB ay s with | some ns=>ns.all p | none=>false
 |none=>false
def oO(hs:List FuncId)(ay:eZ)(g h:aB):Bool:=pV hs h.op||match h.op with
 | .bu _ (.t y) _=>match nN g.op with
  |some []=>true
  |_=>match jB ay y with
   |some ms=>sD ay g fun n => !ms.contains n
   |none=>false
 | .bu .. =>match nN g.op with
  |some []=>true
  |_=>false
 | .dC _ _ _ _ s _=>sD ay g (fun _=>false)||uU (rz ay s) []
 |_=>false
def oE(hs:List FuncId)(ay:eZ)(g h:aB):Bool:=jm g.op&&(oO hs ay g h&&((match g.dst with
  |some d => !h.c5.contains d&&h.dst != some d
  |none=>true)&&(match h.dst with
  |some d => !g.c5.contains d
  |none=>true)))
theorem xw{op:b8}(h:jm op=true)(A:af)(dst:Option Nat)(rest:List aB)(k:af→cI):bj A dst op rest k=cN (bx A op) fun v=>k (A.aJ dst v):=by
 cases op <;>first | rfl | cases h
inductive cG (P:Program) (hs:List FuncId) (K:af→Prop):cI→Prop where
 |done {A:af} : K A→cG P hs K (.done A)
 |flat {f:FuncId} {avs cargs:List I} {a2:Option (List I)} {dst:Option Nat} {rest:List aB} {A:af} (r:I):aA P f cargs r→r.flat=true→cG P hs K (az rest (A.aJ dst r))→cG P hs K (.call f avs (some cargs) a2 dst rest A)
 |lead {f:FuncId} {avs cargs:List I} {a1:Option (List I)} {dst:Option Nat} {rest:List aB} {A:af} (r:I):aA P f cargs r→cG P hs K (az rest (A.aJ dst r))→cG P hs K (.call f avs a1 (some cargs) dst rest A)
 |bS {f:FuncId} {avs:List I} {a1 a2:Option (List I)} {dst:Option Nat} {rest:List aB} {ts:List (Nat×I)} {os0:List (Nat×ai)} (ρ:List (Nat×Nat)) (cargs:List I) (post:cR):cF P f cargs [] post →
   fP ρ [] os0→jt false (av ts os0) ρ [] avs cargs→(∀ r os',post r os'→dx false ρ [] os0 r os') →
   (∀ r os',post r os'→cG P hs K (az rest ((av ts (dJ ρ os'++os0)).aJ dst (r.aR (bD ρ)))))→cG P hs K (.call f avs a1 a2 dst rest (av ts os0))
 |any {p:Nat→Prop} {k:Nat→cI} : (∀ m,p m→cG P hs K (k m))→cG P hs K (.any p k)
 |yC {f:FuncId} {avs:List I} {a1 a2:Option (List I)} {dst:Option Nat} {rest:List aB} {ts:List (Nat×I)} {os0:List (Nat×ai)} (aC:Bool) (ρ:List (Nat×Nat)) (os:List (Nat×ai)) (cargs:List I) (post:cR):hs.contains f=true→cF P f cargs os post →
   fP ρ os os0→jt aC (av ts (c7 (jZ ρ os) os0)) ρ os avs cargs→(∀ r os',post r os'→dx aC ρ os os0 r os') →
   (∀ r os',post r os'→cG P hs K (az rest ((av ts (dJ ρ os'++os0)).aJ dst (r.aR (bD ρ)))))→cG P hs K (.call f avs a1 a2 dst rest (av ts os0))
theorem Y1(os:List (Nat×ai)):c7 [] os=os:=by simp[c7]
section
variable {P:Program} {hs:List FuncId} {K:af→Prop} {Y:Value→List I→List (Nat×ai)→cR→Prop}
theorem cG.AD{p:Nat→Prop}{k:Nat→cI}(h:cG P hs K (.any p k)):∀ m,p m→cG P hs K (k m):=by cases h;assumption
theorem eU.put{ay:eZ}{A B:af}(h:eU ay A)(ht:∀ k,B.t k=A.t k){dst:Option Nat}{v:I}(hv:∀ d,dst=some d→∀ ns,jB ay d=some ns→v.only (fun n=>ns.contains n)=true):eU ay (B.aJ dst v):=by
 intro s ns hs'
 cases dst with
 |none=>exact (ht s).symm▸h s ns hs'
 |some d =>
  simp only[af.aJ,af.put]
  by_cases hd:s=d
  ·rw[if_pos hd];exact hv d rfl ns (hd▸hs')
  ·rw[if_neg hd,ht];exact h s ns hs'
theorem r5{ay:eZ}{A:af}(h:eU ay A){x:aH}{ns:List Nat}(hx:uU (rz ay x) ns=true):(ae A x).only (fun n=>ns.contains n)=true:=by
 cases x with
 |c x =>
  simp only[rz] at hx
  split at hx
  ·rename_i hc;exact mS _ x hc
  ·cases hx
 |t s =>
  simp only[rz] at hx
  cases hl:jB ay s with
  |none=>rw[hl] at hx;cases hx
  |some ms =>
   rw[hl] at hx
   simp only[uU,List.all_eq_true] at hx
   exact jg (fun n hn=>hx n (by simpa using hn)) _ (h s ms hl)
theorem Rx{op:BinOp}{x y v:I}(p:Nat→Bool)(h:cJ op x y=some v):v.only p=true:=by
 unfold cJ at h
 (repeat' split at h) <;>first | (cases h;done) | (simp only[Option.some.injEq] at h;subst h;rfl)
theorem yR{p:Nat→Bool} : ∀ {xs:List I} {i:Nat} {x:I},I.bR p xs=true→xs[i]?=some x→x.only p=true
 | [],_,_,_,h=>by simp at h
 |a::xs,0,x,h,e=>by
  simp only[I.bR,Bool.and_eq_true] at h
  simp only[List.getElem?_cons_zero,Option.some.injEq] at e
  exact e▸h.1
 |a::xs,i+1,x,h,e=>by
  simp only[I.bR,Bool.and_eq_true] at h
  exact yR (xs:=xs) h.2 (by simpa using e)
theorem Lp{ay:eZ}{A:af}{g:aB}(h:eU ay A)(hg:jF ay g=true){v:I}(hv:bx A g.op=some v):∀ d,g.dst=some d→∀ ns,jB ay d=some ns→v.only (fun n=>ns.contains n)=true:=by
 intro d hd ns hn
 obtain ⟨dst,op,gd⟩:=g
 simp only at hd hv
 subst hd
 simp only[jF,hn] at hg
 cases op <;>simp only at hg <;>(try (cases hg;done)) <;>simp only[bx] at hv <;>(try (cases hv;done))
 case mv x=>simp only[Option.some.injEq] at hv;exact hv▸r5 h hg
 case nilC x =>
  have:=r5 h hg
  generalize ae A x=u at hv this
  cases u <;>simp only[mP] at hv <;>first | (cases hv;done) | (simp only[Option.some.injEq] at hv;exact hv▸this)
 case bin op x y=>exact Rx _ hv
 case conv k x=>split at hv <;>first | (cases hv;done) | (simp only[Option.some.injEq] at hv;subst hv;rfl)
 case lenT x=>split at hv <;>first | (cases hv;done) | (simp only[Option.some.injEq] at hv;subst hv;rfl)
 case len x=>(repeat' split at hv) <;>first | (cases hv;done) | (simp only[Option.some.injEq] at hv;subst hv;rfl)
 case bs0 e=>simp only[Option.some.injEq] at hv;subst hv;rfl
 case bs e ps =>
  split at hv
  ·split at hv
   ·rename_i hc
    simp only[Option.some.injEq] at hv;subst hv
    simp only[I.only];exact kA _ _ hc.2
   ·cases hv
  ·cases hv
 case fa f off x =>
  have hx:=r5 h hg
  split at hv
  ·rename_i fs he
   rw[he] at hx
   simp only[I.only] at hx
   split at hv
   ·rename_i u hu
    split at hv
    ·simp only[Option.some.injEq] at hv;subst hv
     simp only[I.only];exact yR hx hu
    ·cases hv
   ·cases hv
  ·rename_i n q he
   rw[he] at hx
   simp only[I.only] at hx
   split at hv
   ·split at hv
    ·simp only[Option.some.injEq] at hv;subst hv;simpa only[I.only] using hx
    ·cases hv
   ·cases hv
  ·cases hv
 case ia n esz x i =>
  have hx:=r5 h hg
  split at hv
  case h_2=>cases hv
  split at hv
  case isFalse=>cases hv
  split at hv
  ·rename_i fs he
   rw[he] at hx
   simp only[I.only] at hx
   split at hv
   ·simp only[Option.map_eq_some_iff] at hv
    obtain ⟨u,hu,rfl⟩:=hv
    simp only[I.only];exact yR hx hu
   ·cases hv
  ·rename_i m q he
   rw[he] at hx
   simp only[I.only] at hx
   split at hv
   ·split at hv
    ·simp only[Option.some.injEq] at hv;subst hv;simpa only[I.only] using hx
    ·cases hv
   ·cases hv
  ·cases hv
def sv(A:af)(dst:Option Nat)(s:I)(B:af):Prop:=(∀ t,dst≠some t→B.t t=A.t t)∧(s.only (fun _=>false)=true→ez A B)
def od(A:af)(dst:Option Nat)(s:I)(R:(af→cI)→cI):Prop :=
 (∀ k,R k=.fail)∨(∃ B,(∀ k,R k=k B)∧sv A dst s B)∨∃ (p:Nat→Prop) (bt:Nat→af),(∀ k,R k=.any p fun m=>k (bt m))∧∀ m,sv A dst s (bt m)
theorem rO{A B:af}{dst:Option Nat}{v:I}{t:Nat}(ht:∀ k,B.t k=A.t k)(h:dst≠some t):(B.aJ dst v).t t=A.t t:=by
 cases dst with
 |none=>exact ht t
 |some d =>
  have:t≠d:=fun e=>h (by rw[e])
  simp only[af.aJ,af.put,if_neg this]
  exact ht t
theorem QY(A:af)(dst:Option Nat)(esz bytes:Nat)(z s:I)(es ys:List I):od A dst s (gl A dst esz bytes z es ys):=by
 cases dst with
 |none=>exact .inl fun _=>rfl
 |some d =>
  cases ho:A.o d with
  |some y=>exact .inl fun k=>by simp only[gl,ho]
  |none =>
   by_cases hc:(es.length+ys.length)*bytes≤140737488355328∧es.length+ys.length≤maxLen
   ·refine .inr (.inr ⟨_,fun m=>(A.aK d (.box (.agg (es++(ys++List.replicate m z))))).aJ (some d) (.view d [] esz 0 (es.length+ys.length)),fun k=>by simp only[gl,ho];rw[if_pos hc],fun m=>⟨fun t ht=>rO (A:=A) (B:=A.aK d _) (fun _=>rfl) ht,fun _ n y hy =>?_⟩⟩)
    have:n≠d:=fun e=>by rw[e,ho] at hy;cases hy
    rw[iQ]
    simp only[af.aK,if_neg this];exact hy
   ·exact .inl fun k=>by simp only[gl,ho];rw[if_neg hc]
theorem Q2(A:af)(dst:Option Nat)(esz bytes:Nat)(z s:I)(es ys:Option (List I)):od A dst s (fp A dst esz bytes z s es ys):=by
 cases es with
 |none=>exact .inl fun _=>rfl
 |some es =>
  cases ys with
  |none=>exact .inl fun _=>rfl
  |some ys =>
   by_cases h0:ys=[]
   ·exact .inr (.inl ⟨A.aJ dst s,fun k=>by simp only[fp,if_pos h0],fun t ht=>rO (A:=A) (fun _=>rfl) ht,fun _ n y hy=>by rw[iQ];exact hy⟩)
   ·have gg:=fun s'=>QY A dst esz bytes z s' es ys
    cases s
    case nils=>simp only[od,fp,if_neg h0];exact gg _
    case c0=>simp only[od,fp,if_neg h0];exact gg _
    case view n p sz lo l =>
     cases ho:A.o n with
     |none=>exact .inl fun k=>by simp only[fp,if_neg h0,ho]
     |some y =>
      cases y with
      |box b =>
       cases hb:b.at p with
       |none=>exact .inl fun k=>by simp only[fp,if_neg h0,ho,hb]
       |some c =>
        cases c
        case agg fs =>
         by_cases h1:lo+l+ys.length≤fs.length
         ·by_cases h2:sz=esz∧I.cK ys=I.cK ((fs.drop (lo+l)).take ys.length)
          ·exact .inr (.inl ⟨(A.aK n (.box (iA b p (lo+l) fs ys))).aJ dst (.view n p esz lo (l+ys.length)),fun k=>by simp only[fp,if_neg h0,ho,hb,if_pos h1];rw[if_pos h2],fun t ht=>rO (A:=A) (B:=A.aK n _) (fun _=>rfl) ht,fun h=>by simp[I.only] at h⟩)
          ·exact .inl fun k=>by simp only[fp,if_neg h0,ho,hb,if_pos h1];rw[if_neg h2]
         ·simp only[od,fp,if_neg h0,ho,hb,if_neg h1];exact gg _
        all_goals exact .inl fun k=>by simp only[fp,if_neg h0,ho,hb]
      |_=>exact .inl fun k=>by simp only[fp,if_neg h0,ho]
    all_goals exact .inl fun k=>by simp only[fp,if_neg h0]
theorem AG(A:af)(dst:Option Nat)(e esz bytes:Nat)(z:I)(s x:aH)(rest:List aB):od A dst (ae A s) (bj A dst (.dC e esz bytes z s x) rest):=by
 generalize hs:ae A s=zI
 cases zI
 case own n l =>
  cases hx:ae A x
  case slice sz ys =>
   cases ho:A.o n with
   |none=>exact .inl fun k=>by simp only[bj,hs,hx,ho]
   |some y =>
    cases y with
    |bT T sz' es =>
     by_cases hc:yF e esz bytes l sz ys T sz' es
     ·exact .inr (.inl ⟨(A.aK n (.bT e esz (es++ys))).aJ dst (.own n (es.length+ys.length)),fun k=>by simp only[bj,hs,hx,ho];rw[if_pos hc],fun t ht=>rO (A:=A) (B:=A.aK n _) (fun _=>rfl) ht,fun h=>by simp[I.only] at h⟩)
     ·exact .inl fun k=>by simp only[bj,hs,hx,ho];rw[if_neg hc]
    |cV T xs =>
     by_cases hc:yG e esz bytes l ys T xs z
     ·exact .inr (.inl ⟨(A.aK n (.cV e (xs++rp ys))).aJ dst (.own n (xs.length+ys.length)),fun k=>by simp only[bj,hs,hx,ho];rw[if_pos hc],fun t ht=>rO (A:=A) (B:=A.aK n _) (fun _=>rfl) ht,fun h=>by simp[I.only] at h⟩)
     ·exact .inl fun k=>by simp only[bj,hs,hx,ho];rw[if_neg hc]
    |_=>exact .inl fun k=>by simp only[bj,hs,hx,ho]
  all_goals exact .inl fun k=>by simp only[bj,hs,hx]
 all_goals (simp only[od,bj,hs];exact Q2 ..)
theorem y9{A:af}{d:Nat}{v:I}{n:Nat}{y:ai}{dst:Option Nat}{u:I}(h:dst≠some d):((A.put d v).aK n y).aJ dst u=((A.aK n y).aJ dst u).put d v:=by
 cases dst with
 |none=>rfl
 |some e =>
  have:e≠d:=fun he=>h (by rw[he])
  simp only[af.aJ,af.put,af.aK,af.mk.injEq,and_true]
  funext k
  by_cases h1:k=e <;>by_cases h2:k=d <;>simp_all
theorem akI{A:af}{d:Nat}{v:I}{dst:Option Nat}{u:I}(h:dst≠some d):(A.put d v).aJ dst u=(A.aJ dst u).put d v:=by
 cases dst with
 |none=>rfl
 |some e =>
  have:e≠d:=fun he=>h (by rw[he])
  simp only[af.aJ,af.put,af.mk.injEq,and_true]
  funext k
  by_cases h1:k=e <;>by_cases h2:k=d <;>simp_all
theorem QZ{A:af}{d:Nat}{v:I}{dst:Option Nat}(h:dst≠some d)(esz bytes:Nat)(z:I)(es ys:List I)(k:af→cI):gl (A.put d v) dst esz bytes z es ys k=gl A dst esz bytes z es ys fun B=>k (B.put d v):=by
 cases dst with
 |none=>rfl
 |some e =>
  simp only[gl]
  have:(A.put d v).o=A.o:=rfl
  rw[this]
  cases A.o e with
  |some _=>rfl
  |none =>
   simp only
   split
   ·simp only[y9 h]
   ·rfl
theorem Q3{A:af}{d:Nat}{v:I}{dst:Option Nat}(h:dst≠some d)(esz bytes:Nat)(z s:I)(es ys:Option (List I))(k:af→cI):fp (A.put d v) dst esz bytes z s es ys k=fp A dst esz bytes z s es ys fun B=>k (B.put d v):=by
 have ho:(A.put d v).o=A.o:=rfl
 cases es with
 |none=>rfl
 |some es =>
  cases ys with
  |none=>rfl
  |some ys =>
   simp only[fp]
   split
   ·rw[akI h]
   ·cases s <;>simp only[QZ h,ho]
    rename_i n p sz lo l
    cases A.o n with
    |none=>rfl
    |some y =>
     cases y with
     |box b =>
      simp only
      cases b.at p with
      |none=>rfl
      |some c =>
       cases c <;>simp only[y9 h]
     |_=>rfl
theorem Q7{A:af}{d:Nat}{v:I}{dst:Option Nat}(h:dst≠some d){e esz bytes:Nat}{z:I}{s x:aH}(hag:ee A (A.put d v) (s.sl++x.sl))(rest rest':List aB)(k:af→cI) :
  bj (A.put d v) dst (.dC e esz bytes z s x) rest k=bj A dst (.dC e esz bytes z s x) rest' fun B=>k (B.put d v):=by
 have ho:(A.put d v).o=A.o:=rfl
 have hsrc:∀ y,er (A.put d v) esz y=er A esz y:=fun y=>by cases y <;>rfl
 simp only[bj,de hag.l,de hag.r,hsrc]
 cases ae A s <;>simp only[Q3 h]
 rename_i n l
 cases ae A x <;>simp only[ho]
 cases A.o n with
 |none=>rfl
 |some y=>cases y <;>simp only[y9 h]
theorem cG.CT{ay:eZ}{f:FuncId}{avs:List I}{a1 a2:Option (List I)}{dst:Option Nat}{rest:List aB}{A:af}(hi:eU ay A)(hd:∀ d,dst=some d→jB ay d=none)(h:cG P hs K (.call f avs a1 a2 dst rest A)) :
  a8 P Y false (fun B=>cG P hs K (az rest B)∧eU ay B) (.call f avs a1 a2 dst [] A):=by
 have no:∀ {v:I},∀ d,dst=some d→∀ ns,jB ay d=some ns→v.only (fun n=>ns.contains n)=true:=fun d e ns hn=>by rw[hd d e] at hn;cases hn
 cases h with
 |flat r hc hf hw=>exact .flat r hc hf (.done ⟨hw,hi.put (fun _=>rfl) no⟩)
 |lead r hc hw=>exact .lead r hc (.done ⟨hw,hi.put (fun _=>rfl) no⟩)
 |bS ρ cargs post hc hg ha hb hw=>exact .bS false ρ [] cargs post rfl hc hg (by simp only[jZ,List.map_nil,Y1];exact ha) hb fun r os' hp=>.done ⟨hw r os' hp,hi.put (B:=av _ (dJ ρ os'++_)) (fun _=>rfl) no⟩
 |yC aC ρ os cargs post _ hc hg ha hb hw=>exact .bS aC ρ os cargs post rfl hc hg ha hb fun r os' hp=>.done ⟨hw r os' hp,hi.put (B:=av _ (dJ ρ os'++_)) (fun _=>rfl) no⟩
theorem cG.one{ay:eZ}{A:af}{g:aB}{rest:List aB}(hi:eU ay A)(ho:ug g.op=true)(hL:jF ay g=true)(h:cG P hs K (bj A g.dst g.op rest (az rest))):a8 P Y false (fun B=>cG P hs K (az rest B)∧eU ay B) (bj A g.dst g.op [] (az [])):=by
 have hval:=fun v (hv:bx A g.op=some v)=>Lp hi hL hv
 obtain ⟨dst,op,gd⟩:=g
 simp only at ho h hval ⊢
 have pure:jm op=true→a8 P Y false (fun B=>cG P hs K (az rest B)∧eU ay B) (bj A dst op [] (az [])):=by
  intro hsm
  rw[xw hsm] at h ⊢
  cases hv:bx A op with
  |none=>rw[hv] at h;cases h
  |some v=>rw[hv] at h;exact .done ⟨h,hi.put (fun _=>rfl) (hval v hv)⟩
 have unl:(∀ ns d,dst=some d→jB ay d=some ns→jF ay ⟨dst,op,gd⟩=false)→∀ d,dst=some d→jB ay d=none:=fun h1 d hd=>by
  cases hn:jB ay d with
  |none=>rfl
  |some ns=>rw[h1 ns d hd hn] at hL;cases hL
 cases op with
 |alloc z =>
  cases dst with
  |none=>simp only[bj] at h;cases h
  |some d =>
   simp only[bj] at h ⊢
   split at h
   case h_2=>cases h
   refine .done ⟨h,hi.put (B:=A.aK d _) (dst:=some d) (fun _=>rfl) fun d' e ns hn =>?_⟩
   simp only[Option.some.injEq] at e;subst e
   simpa only[jF,hn,I.only] using hL
 |box x =>
  cases dst with
  |none=>simp only[bj] at h;cases h
  |some d =>
   simp only[bj] at h ⊢
   split at h
   case h_2=>cases h
   split at h
   case isFalse=>cases h
   rename_i hv
   rw[if_pos hv]
   refine .done ⟨h,hi.put (B:=A.aK d _) (dst:=some d) (fun _=>rfl) fun d' e ns hn =>?_⟩
   simp only[Option.some.injEq] at e;subst e
   simpa only[jF,hn,I.only] using hL
 |bu s x v =>
  cases dst with
  |some d=>simp only[bj] at h;cases h
  |none =>
   simp only[bj] at h ⊢
   split at h
   case h_2=>cases h
   rename_i n p hx
   split at h
   case h_2=>cases h
   rename_i b hb
   split at h
   case h_2=>cases h
   rename_i old hold
   split at h
   case isFalse=>cases h
   rename_i hok
   simp only[if_pos hok]
   exact .done ⟨h,fun s ns hn=>hi s ns hn⟩
 |call f args=>exact cG.CT hi (unl fun ns d e hn=>by subst e;simp only[jF,hn]) h
 |eD x args =>
  have hu:=unl fun ns d e hn=>by subst e;simp only[jF,hn]
  simp only[bj] at h ⊢
  split at h
  ·exact cG.CT hi hu h
  ·cases h
  ·cases h
 |dC e esz bytes z s x =>
  have hu:=unl fun ns d e hn=>by subst e;simp only[jF,hn]
  have tx:∀ B,sv A dst (ae A s) B→eU ay B:=fun B hB t ns hn=>by
   rw[hB.1 t fun e=>by rw[hu t e] at hn;cases hn]
   exact hi t ns hn
  have hf:=AG A dst e esz bytes z s x
  rcases hf rest with h1 | ⟨B,h1,h2⟩ | ⟨p,bt,h1,h2⟩
  ·rw[h1] at h;cases h
  ·rw[h1] at h
   have:bj A dst (.dC e esz bytes z s x) [] (az [])=az [] B:=(show bj A dst (.dC e esz bytes z s x) [] (az [])=bj A dst (.dC e esz bytes z s x) rest (az []) from rfl).trans (h1 _)
   rw[this]
   exact .done ⟨h,tx B h2⟩
  ·rw[h1] at h
   have:bj A dst (.dC e esz bytes z s x) [] (az [])=.any p fun m=>az [] (bt m):=(show bj A dst (.dC e esz bytes z s x) [] (az [])=bj A dst (.dC e esz bytes z s x) rest (az []) from rfl).trans (h1 _)
   rw[this]
   exact .any rfl fun m hm=>.done ⟨h.AD m hm,tx _ (h2 m)⟩
 |_=>first | exact pure rfl | cases ho
def gw(g:aB)(A:af)(v:I):Prop:=(gF A g∧v=.undef)∨(pass A g∧bx A g.op=some v)
theorem cG.zC{A:af}{g:aB}{rest:List aB}(hs':jm g.op=true)(h:cG P hs K (az (g::rest) A)):∃ v,gw g A v∧cG P hs K (az rest (A.aJ g.dst v)):=by
 have step:pass A g→cG P hs K (bj A g.dst g.op rest (az rest))→∃ v,gw g A v∧cG P hs K (az rest (A.aJ g.dst v)):=by
  intro hp h
  rw[xw hs'] at h
  cases hv:bx A g.op with
  |none=>rw[hv] at h;cases h
  |some v=>rw[hv] at h;exact ⟨v,.inr ⟨hp,hv⟩,h⟩
 simp only[az] at h
 split at h
 ·rename_i hg
  exact step (by simp only[pass,hg]) h
 ·rename_i t b hg
  split at h
  ·rename_i b' hb
   split at h
   ·rename_i hbb
    subst hbb
    exact step (by simp only[pass,hg];exact hb) h
   ·rename_i hbb
    exact ⟨_,.inl ⟨by simp only[gF,hg];exact .inl (by rw[hb,vx hbb]),rfl⟩,h⟩
  ·rename_i hb
   exact ⟨_,.inl ⟨by simp only[gF,hg];exact .inr hb,rfl⟩,h⟩
  ·cases h
theorem sC{A:af}{g:aB}{rest:List aB}(hn:gF A g):az (g::rest) A=az rest (A.aJ g.dst .undef):=by
 simp only[az]
 cases hg:g.guard with
 |none=>simp only[gF,hg] at hn
 |some tb =>
  obtain ⟨t,b⟩:=tb
  simp only[gF,hg] at hn
  rcases hn with hn | hn
  ·simp only[hn];rw[if_neg (by cases b <;>simp)]
  ·simp only[hn]
theorem gw.to{A:af}{g:aB}{rest:List aB}{v:I}(hs':jm g.op=true)(h:gw g A v):az (g::rest) A=az rest (A.aJ g.dst v):=by
 rcases h with ⟨hn,rfl⟩ | ⟨hp,hv⟩
 ·exact sC hn
 ·rw[oi hp,xw hs',hv];rfl
theorem YJ{A A':af}{p:Nat→Bool}(ho:∀ n,p n=true→A'.o n=A.o n){x:I}(hx:x.only p=true):cC A' x=cC A x:=by
 cases x <;>simp only[cC]
 rename_i n q
 rw[ho n (by simpa[I.only] using hx)]
mutual
theorem ZC{A A':af}{p:Nat→Bool}(ho:∀ n,p n=true→A'.o n=A.o n):∀ {x:I},x.only p=true→br false A' x=br false A x
 | .own n k,h=>by simp only[br];rw[ho n (by simpa[I.only] using h)]
 | .func f caps,h=>by simp only[br];rw[sZ ho (xs:=caps) (by simpa[I.only] using h)]
 | .agg fs,h=>by simp only[br];rw[sZ ho (xs:=fs) (by simpa[I.only] using h)]
 | .undef,_ | .df,_ | .bool _,_ | .int _ _,_ | .cY _,_ | .nilp,_ | .dh,_ | .dX,_ | .raw _,_ | .nils _,_ | .c0 _,_ | .slice _ _,_ | .tuple _,_ | .ref _,_ | .iface _ _,_ | .ptr _ _,_ | .view _ _ _ _ _,_ | .mref _,_ | .dv _,_ | .cT _ _,_=>by simp[br]
theorem sZ{A A':af}{p:Nat→Bool}(ho:∀ n,p n=true→A'.o n=A.o n):∀ {xs:List I},I.bR p xs=true→b7 false A' xs=b7 false A xs
 | [],_=>rfl
 |x::xs,h=>by
  simp only[I.bR,Bool.and_eq_true] at h
  simp only[b7,ZC ho h.1,sZ ho h.2]
end
theorem LI{p:Nat→Bool}{f:aH→I} : ∀ {xs:List aH},(∀ x∈xs,(f x).only p=true)→I.bR p (xs.map f)=true
 | [],_=>rfl
 |x::xs,h=>by
  simp only[List.map_cons,I.bR,Bool.and_eq_true]
  exact ⟨h x (by simp),LI fun y hy=>h y (by simp[hy])⟩
theorem aip{A A':af}{p:Nat→Bool}(ho:∀ n,p n=true→A'.o n=A.o n){x:I}(hx:x.only p=true):gE A' x=gE A x:=by
 cases x with
 |mref n=>simp only[gE];rw[ho n (by simpa[I.only] using hx)]
 |raw v=>cases v <;>first | rfl | (rename_i o;cases o <;>rfl)
 |_=>rfl
theorem akx{A A':af}{op:b8}{xs:List Nat}{p:Nat→Bool}(hm:nN op=some xs)(h:ee A A' op.c5)(hx:∀ s∈xs,(A.t s).only p=true)(ho:∀ n,p n=true→A'.o n=A.o n):bx A' op=bx A op:=by
 have iL:op.gK=0→bx A' op=bx A op:=fun hc=>y8 hc h
 have dl:=fun {x:I} (hx:x.only p=true)=>YJ ho hx
 unfold nN at hm
 split at hm
 ·rename_i s x
  simp only[Option.some.injEq] at hm;subst hm
  have e:=h x (by simp[b8.c5,aH.sl])
  simp only[bx,ae,e,dl (hx x (by simp))]
 ·rename_i f off x
  simp only[Option.some.injEq] at hm;subst hm
  have e:=h x (by simp[b8.c5,aH.sl])
  have k:=hx x (by simp)
  simp only[bx,ae,e]
  generalize A.t x=u at k ⊢
  cases u with
  |ptr n q=>simp only[dl (x:=.ptr n q) k]
  |ref c=>cases c <;>rfl
  |_=>rfl
 ·rename_i n esz x i
  simp only[Option.some.injEq] at hm;subst hm
  have e:=h x (by simp[b8.c5,aH.sl])
  have ei:=de (x:=i) (fun m hm=>h m (by simp[b8.c5,hm]))
  have k:=hx x (by simp)
  simp only[bx,ei]
  generalize ae A i=w
  simp only[ae,e]
  generalize A.t x=u at k ⊢
  cases u with
  |ptr n q=>simp only[dl (x:=.ptr n q) k]
  |ref c=>cases c <;>rfl
  |_=>rfl
 ·rename_i esz x i
  simp only[Option.some.injEq] at hm;subst hm
  have e:=h x (by simp[b8.c5,aH.sl])
  have ei:=de (x:=i) (fun m hm=>h m (by simp[b8.c5,hm]))
  have k:=hx x (by simp)
  simp only[bx,ei]
  generalize ae A i=w
  simp only[ae,e]
  generalize A.t x=u at k ⊢
  cases u with
  |own n l=>simp only[ho n (by simpa[I.only] using k)]
  |view n q=>simp only[dl (x:=.ptr n q) (by simpa[I.only] using k)]
  |_=>rfl
 ·rename_i x
  simp only[Option.some.injEq] at hm;subst hm
  have e:=h x (by simp[b8.c5,aH.sl])
  have k:=hx x (by simp)
  simp only[bx,ae,e]
  generalize A.t x=u at k ⊢
  cases u with
  |own n l=>simp only[ho n (by simpa[I.only] using k)]
  |_=>rfl
 ·rename_i n esz x
  simp only[Option.some.injEq] at hm;subst hm
  have e:=h x (by simp[b8.c5,aH.sl])
  have k:=hx x (by simp)
  simp only[bx,ae,e]
  generalize A.t x=u at k ⊢
  cases u with
  |ptr n q=>simp only[dl (x:=.ptr n q) k]
  |ref c=>cases c <;>rfl
  |_=>rfl
 ·rename_i esz x lo hi mx
  simp only[Option.some.injEq] at hm;subst hm
  have e:=h x (by simp[b8.c5,aH.sl])
  have e1:=pK (x:=lo) (fun m hm=>h m (by simp[b8.c5,hm]))
  have e2:=pK (x:=hi) (fun m hm=>h m (by simp[b8.c5,hm]))
  have e3:=pK (x:=mx) (fun m hm=>h m (by simp[b8.c5,hm]))
  have k:=hx x (by simp)
  simp only[bx,e1,e2,e3]
  generalize lo.map (ae A)=w1
  generalize hi.map (ae A)=w2
  generalize mx.map (ae A)=w3
  simp only[ae,e]
  generalize A.t x=u at k ⊢
  cases u with
  |view n q=>simp only[dl (x:=.ptr n q) (by simpa[I.only] using k)]
  |_=>rfl
 ·rename_i x
  simp only[Option.some.injEq] at hm;subst hm
  have e:=h x (by simp[b8.c5,aH.sl])
  have k:=hx x (by simp)
  simp only[bx,ae,e]
  generalize A.t x=u at k ⊢
  cases u with
  |view n q=>simp only[dl (x:=.ptr n q) (by simpa[I.only] using k)]
  |_=>rfl
 ·rename_i ty z ok x kk
  simp only[Option.some.injEq] at hm;subst hm
  have e:=h x (by simp[b8.c5,aH.sl])
  have ek:=de (x:=kk) (fun m hm=>h m (by simp[b8.c5,hm]))
  have k:=hx x (by simp)
  simp only[bx,ek]
  generalize ae A kk=w
  simp only[ae,e,aip ho k]
 ·rename_i esz ps
  split at hm
  case isFalse=>cases hm
  rename_i hall
  simp only[Option.some.injEq] at hm;subst hm
  have hev:ps.map (ae A')=ps.map (ae A):=mE h
  have hon:I.bR p (ps.map (ae A))=true:=LI fun x hx'=>by
   have h1:=List.all_eq_true.1 hall x hx'
   cases x with
   |c _=>cases h1
   |t s=>exact hx s (by simp only[j9,List.mem_flatMap];exact ⟨_,hx',by simp[aH.sl]⟩)
  simp only[bx,hev,sZ ho hon]
 ·rfl
 ·split at hm
  ·rename_i hc;exact iL hc.1
  ·cases hm
theorem AF{ay:eZ}{A:af}{g:aB}{p:Nat→Bool}(hi:eU ay A)(h:sD ay g p=true):∃ xs,nN g.op=some xs∧∀ s∈xs,(A.t s).only p=true:=by
 unfold sD at h
 split at h
 case h_2=>cases h
 rename_i xs hm
 refine ⟨xs,hm,fun s hs' =>?_⟩
 have h1:=List.all_eq_true.1 h s hs'
 split at h1
 case h_2=>cases h1
 rename_i ns hn
 exact jg (fun n h2=>List.all_eq_true.1 h1 n (by simpa using h2)) _ (hi s ns hn)
theorem gw.ya{A A':af}{g:aB}{v:I}{xs:List Nat}{p:Nat→Bool}(h:gw g A v)(hm:nN g.op=some xs)(ha:ee A A' g.c5)(hx:∀ s∈xs,(A.t s).only p=true)(ho:∀ n,p n=true→A'.o n=A.o n):gw g A' v:=by
 rcases h with ⟨h,rfl⟩ | ⟨h,k⟩
 ·exact .inl ⟨qd ha h,rfl⟩
 ·exact .inr ⟨nT ha h,by rw[akx hm (aB.kC ha) hx ho];exact k⟩
theorem gw.tx{ay:eZ}{A:af}{g:aB}{v:I}(hi:eU ay A)(hg:jF ay g=true)(h:gw g A v):eU ay (A.aJ g.dst v):=by
 rcases h with ⟨_,rfl⟩ | ⟨_,k⟩
 ·exact hi.put (fun _=>rfl) fun _ _ _ _=>rfl
 ·exact hi.put (fun _=>rfl) (Lp hi hg k)
theorem gw.cL{A A':af}{g:aB}{v:I}(h:gw g A v)(hu:ez A A')(ha:ee A A' g.c5):gw g A' v:=by
 rcases h with ⟨h,rfl⟩ | ⟨h,k⟩
 ·exact .inl ⟨qd ha h,rfl⟩
 ·exact .inr ⟨nT ha h,L2 hu (aB.kC ha) k⟩
theorem Km{ay:eZ}{g h:aB}(hi:oE hs ay g h=true):jm g.op=true∧oO hs ay g h=true∧(∀ d,g.dst=some d→d∉h.c5)∧(∀ d,g.dst=some d→h.dst≠some d)∧(∀ d,h.dst=some d→d∉g.c5):=by
 simp only[oE,Bool.and_eq_true] at hi
 obtain ⟨h1,h2,h3,h4⟩:=hi
 refine ⟨h1,h2,fun d hd =>?_,fun d hd =>?_,fun d hd =>?_⟩
 ·rw[hd] at h3;simp at h3;exact h3.1
 ·rw[hd] at h3;simp at h3;exact h3.2
 ·rw[hd] at h4;simpa using h4
theorem AJ{aC:Bool}{A A':af}{ρ:List (Nat×Nat)}{os:List (Nat×ai)}(hu:ez A A'):∀ {xs cs:List I},jt aC A ρ os xs cs→jt aC A' ρ os xs cs
 | [],[],_=>trivial
 |x::xs,c::cs,h=>⟨h.1.imp id fun h=>DV hu h,AJ hu h.2⟩
 | [],_::_,h=>h.elim
 |_::_,[],h=>h.elim
theorem aiB{A:af}{d:Option Nat}{v:I}{ts:List (Nat×I)}{os:List (Nat×ai)}(h:A.aJ d v=av ts os):∃ ts2,A=av ts2 os∧∀ X:List (Nat×ai),(av ts2 X).aJ d v=av ts X:=by
 cases d with
 |none=>exact ⟨ts,h,fun _=>rfl⟩
 |some d =>
  have ht:∀ k,(A.aJ (some d) v).t k=cn ts k:=fun k=>by rw[h];rfl
  have ho:A.o=al os:=by
   have:(A.aJ (some d) v).o=al os:=by rw[h];rfl
   rwa [iQ] at this
  refine ⟨(d,A.t d)::ts,?_,fun X =>?_⟩
  ·cases A with
   |mk t o =>
    simp only[av,af.mk.injEq]
    refine ⟨funext fun k =>?_,ho⟩
    have:=ht k
    simp only[af.aJ,af.put] at this
    simp only[cn]
    by_cases hk:k=d
    ·subst hk;simp
    ·rw[if_neg hk] at this
     have hk':¬ d=k:=fun e=>hk e.symm
     simp only[hk,if_false]
     exact this
  ·simp only[af.aJ,af.put,av,af.mk.injEq,and_true]
   funext k
   have:=ht k
   simp only[af.aJ,af.put] at this
   by_cases hk:k=d
   ·subst hk;simp at this ⊢;exact this
   ·have hk':¬ d=k:=fun e=>hk e.symm
    simp only[cn,hk,if_false]
theorem aku{ρ:List (Nat×Nat)}{os0 os':List (Nat×ai)}{r:I}(hb:dx false ρ [] os0 r os'){n:Nat}{x:ai}(hx:al os0 n=some x):al (dJ ρ os'++os0) n=some x:=by
 rw[rD]
 cases hp:pre ρ os' n with
 |none=>exact hx
 |some m =>
  obtain ⟨h1,h2⟩:=l9 hp
  have:=(hb.p9 m h1 (by simp[au,al])).1
  rw[h2,hx] at this
  cases this
theorem cG.TH{A B:af}{j:aB}{v:I}{f:FuncId}{args:List aH}{dst:Option Nat}{rest:List aB}(hj:jm j.op=true)(hv:gw j A v)(hB:B=A.aJ j.dst v)(hf:hs.contains f=false)(hag:ee A B (j9 args))(hd:∀ d,j.dst=some d→dst≠some d)(hr:∀ d,dst=some d→d∉j.c5)
  (h:cG P hs K (.call f (args.map (ae B)) (b7 true B (args.map (ae B))) (b7 false B (args.map (ae B))) dst rest B)):cG P hs K (.call f (args.map (ae A)) (b7 true A (args.map (ae A))) (b7 false A (args.map (ae A))) dst (j::rest) A):=by
 have eo:B.o=A.o:=by rw[hB,iQ]
 have cL:ez B A:=fun n x hx=>by rwa [←eo]
 have up':ez A B:=fun n x hx=>by rwa [eo]
 have eav:args.map (ae B)=args.map (ae A):=mE hag
 rw[eav] at h
 have cont:∀ r:I,cG P hs K (az rest (B.aJ dst r))→cG P hs K (az (j::rest) (A.aJ dst r)):=fun r hw=>by
  have h1:gw j (A.aJ dst r) v:=hv.cL (fun n x hx=>by rwa [iQ]) (mU hr)
  rw[h1.to hj,qk (fun d hd'=>fun e=>hd d e hd'),←hB]
  exact hw
 generalize e1:b7 true B (args.map (ae A))=a1 at h
 generalize e2:b7 false B (args.map (ae A))=a2 at h
 generalize hBm:B=B0 at h
 cases h with
 |flat r hc hfl hw =>
  subst hBm
  rw[lR cL e1]
  exact .flat r hc hfl (cont r hw)
 |lead r hc hw =>
  subst hBm
  rw[lR cL e2]
  exact .lead r hc (cont r hw)
 |bS ρ cargs post hc hg ha hb hw =>
  rename_i ts os0
  rw[hB] at hBm
  obtain ⟨ts2,hA,hts⟩:=aiB hBm
  have hA':=hA
  clear cont
  subst hA
  refine .bS ρ cargs post hc hg (AJ (A:=av ts os0) (A':=av ts2 os0) (fun n x hx=>hx) ha) hb fun r os' hp =>?_
  have h1:gw j ((av ts2 (dJ ρ os'++os0)).aJ dst (r.aR (bD ρ))) v:=hv.cL (fun n x hx=>by
   rw[iQ]
   exact aku (hb r os' hp) hx) (fun k hk=>by
    have:=mU (A:=av ts2 (dJ ρ os'++os0)) (v:=r.aR (bD ρ)) hr k hk
    rw[this];rfl)
  rw[h1.to hj,qk (fun d hd'=>fun e=>hd d e hd'),hts]
  exact hw r os' hp
 |yC aC ρ os cargs post hfs =>
  rw[hf] at hfs;cases hfs
theorem cG.swap{ay:eZ}{A:af}{j g:aB}{rest:List aB}(hinv:eU ay A)(hi:oE hs ay j g=true)(hw:cG P hs K (az (j::g::rest) A)):cG P hs K (az (g::j::rest) A):=by
 obtain ⟨hj,hl,i1,i2,i3⟩:=Km hi
 obtain ⟨v,hv,hw⟩:=cG.zC hj hw
 have ag:ee (A.aJ j.dst v) A g.c5:=(mU i1).symm
 have ag':ee A (A.aJ j.dst v) g.c5:=mU i1
 have cL:ez (A.aJ j.dst v) A:=fun n x hx=>by rwa [iQ] at hx
 have up':∀ (d:Option Nat) (u:I),ez A (A.aJ d u):=fun d u n x hx=>by rwa [iQ]
 by_cases hsg:jm g.op=true
 ·obtain ⟨u,hu,hw⟩:=cG.zC hsg hw
  rw[(hu.cL cL ag).to hsg,(hv.cL (up' _ _) (mU i3)).to hj,←qk i2]
  exact hw
 ·-- the guard
  have guard:(gF (A.aJ j.dst v) g∧az (g::rest) (A.aJ j.dst v)=az rest ((A.aJ j.dst v).aJ g.dst .undef))∨(pass (A.aJ j.dst v) g∧az (g::rest) (A.aJ j.dst v)=bj (A.aJ j.dst v) g.dst g.op rest (az rest))∨az (g::rest) (A.aJ j.dst v)=.fail:=by
   cases hg:g.guard with
   |none=>exact .inr (.inl ⟨by simp only[pass,hg],by simp only[az,hg]⟩)
   |some tb =>
    obtain ⟨t,b⟩:=tb
    cases ht:(A.aJ j.dst v).t t with
    |bool b' =>
     by_cases hbb:b'=b
     ·subst hbb
      have hp:pass (A.aJ j.dst v) g:=by simp only[pass,hg,ht]
      exact .inr (.inl ⟨hp,oi hp⟩)
     ·have hn:gF (A.aJ j.dst v) g:=by simp only[gF,hg];exact .inl (by rw[ht,vx hbb])
      exact .inl ⟨hn,sC hn⟩
    |undef =>
     have hn:gF (A.aJ j.dst v) g:=by simp only[gF,hg];exact .inr ht
     exact .inl ⟨hn,sC hn⟩
    |_=>exact .inr (.inr (by simp only[az,hg,ht]))
  rcases guard with ⟨hn,he⟩ | ⟨hp,he⟩ | he
  ·rw[he] at hw
   rw[sC (qd ag hn),(hv.cL (up' _ _) (mU i3)).to hj,←qk i2]
   exact hw
  ·rw[he] at hw
   rw[oi (nT ag hp)]
   obtain ⟨dst,op,gd⟩:=g
   simp only at hw hsg i2 i3 ⊢
   cases op with
   |alloc z =>
    cases dst with
    |none=>simp only[bj] at hw;cases hw
    |some d =>
    simp only[bj] at hw ⊢
    split at hw
    case h_2=>cases hw
    rename_i ho
    rw[iQ] at ho
    simp only[ho]
    have h1:gw j ((A.aK d (.box z)).put d (.ptr d [])) v:=hv.cL (fun n y hy=>by
     have:n≠d:=fun he=>by rw[he,ho] at hy;cases hy
     simp only[af.put,af.aK,this,if_false];exact hy) (fun k hk=>by
     have:k≠d:=fun he=>i3 d rfl (he▸hk)
     simp only[af.put,af.aK,this,if_false])
    rw[h1.to hj]
    have e:((A.aJ j.dst v).aK d (.box z)).put d (.ptr d [])=((A.aK d (.box z)).put d (.ptr d [])).aJ j.dst v:=by
     cases hgd:j.dst with
     |none=>rfl
     |some e =>
      have hne:e≠d:=fun he=>i2 e hgd (by rw[he])
      simp only[af.aJ,af.put,af.aK,af.mk.injEq,and_true]
      funext k
      by_cases h1:k=e <;>by_cases h2:k=d <;>simp_all
    rw[←e];exact hw
   |box x =>
    have ex:ae (A.aJ j.dst v) x=ae A x:=de (aB.kC ag')
    cases dst with
    |none=>simp only[bj] at hw;cases hw
    |some d =>
    simp only[bj] at hw ⊢
    split at hw
    case h_2=>cases hw
    rename_i ho
    rw[iQ] at ho
    simp only[ho]
    rw[ex] at hw
    split at hw
    case isFalse=>cases hw
    rename_i hval
    rw[if_pos hval]
    have h1:gw j ((A.aK d (.box (ae A x))).put d (.ptr d [])) v:=hv.cL (fun n y hy=>by
     have:n≠d:=fun he=>by rw[he,ho] at hy;cases hy
     simp only[af.put,af.aK,this,if_false];exact hy) (fun k hk=>by
     have:k≠d:=fun he=>i3 d rfl (he▸hk)
     simp only[af.put,af.aK,this,if_false])
    rw[h1.to hj]
    have e:((A.aJ j.dst v).aK d (.box (ae A x))).put d (.ptr d [])=((A.aK d (.box (ae A x))).put d (.ptr d [])).aJ j.dst v:=by
     cases hgd:j.dst with
     |none=>rfl
     |some e =>
      have hne:e≠d:=fun he=>i2 e hgd (by rw[he])
      simp only[af.aJ,af.put,af.aK,af.mk.injEq,and_true]
      funext k
      by_cases h1:k=e <;>by_cases h2:k=d <;>simp_all
    rw[←e];exact hw
   |call f args =>
    simp only[bj] at hw ⊢
    refine cG.TH hj hv rfl (by simpa[oO,pV] using hl) (aB.kC ag') i2 i3 hw
   |bu s y u =>
    cases dst with
    |some d=>simp only[bj] at hw;cases hw
    |none =>
    have ey:ae (A.aJ j.dst v) y=ae A y:=de (aB.kC ag').l
    have eu:ae (A.aJ j.dst v) u=ae A u:=de (aB.kC ag').r
    simp only[bj] at hw ⊢
    rw[ey,eu,iQ] at hw
    cases hx:ae A y <;>simp only[hx] at hw ⊢ <;>try (cases hw;done)
    rename_i n q
    cases ho:A.o n with
    |none=>rw[ho] at hw;cases hw
    |some ob =>
    rw[ho] at hw
    cases ob <;>simp only at hw ⊢ <;>try (cases hw;done)
    rename_i b
    cases hb:b.at q with
    |none=>rw[hb] at hw;cases hw
    |some old =>
    rw[hb] at hw
    simp only at hw ⊢
    split at hw
    case isFalse=>cases hw
    rename_i hok
    rw[if_pos hok]
    have h1:gw j (A.aK n (.box (b.dz q (ae A u)))) v:=by
     have none0:nN j.op=some []→gw j (A.aK n (.box (b.dz q (ae A u)))) v:=fun hm=>hv.ya (p:=fun _=>false) hm (fun _ _=>rfl) (fun s hs'=>by cases hs') (fun m hm=>by cases hm)
     cases y with
     |c y =>
      simp only[oO,pV,jm,Bool.false_or] at hl
      split at hl
      ·rename_i hm;exact none0 hm
      ·cases hl
     |t y =>
      simp only[oO,pV,jm,Bool.false_or] at hl
      split at hl
      ·rename_i hm;exact none0 hm
      ·split at hl
       case h_2=>cases hl
       rename_i ms hms
       obtain ⟨xs,hm,hx2⟩:=AF hinv hl
       refine hv.ya hm (fun _ _=>rfl) hx2 fun m hm2 =>?_
       have hn:=hinv y ms hms
       simp only[ae] at hx
       rw[hx] at hn
       have:m≠n:=fun e=>by subst e;simp[I.only] at hn hm2;exact hm2 hn
       simp only[af.aK,if_neg this]
    rw[h1.to hj]
    have e:(A.aJ j.dst v).aK n (.box (b.dz q (ae A u)))=(A.aK n (.box (b.dz q (ae A u)))).aJ j.dst v:=by cases j.dst <;>rfl
    rw[←e];exact hw
   |dC e esz bytes z s x =>
    have hag:ee A (A.aJ j.dst v) (s.sl++x.sl):=aB.kC ag'
    have he2:bj (A.aJ j.dst v) dst (.dC e esz bytes z s x) rest (az rest)=bj A dst (.dC e esz bytes z s x) (j::rest) fun B=>az rest (B.aJ j.dst v):=by
     cases hjd:j.dst with
     |none=>rfl
     |some d =>
      rw[hjd] at hag
      exact Q7 (fun e=>i2 d hjd e) hag rest (j::rest) (az rest)
    rw[he2] at hw
    have km:∀ B,sv A dst (ae A s) B→az (j::rest) B=az rest (B.aJ j.dst v):=fun B hB=>by
     have hagB:ee A B j.c5:=fun k hk=>hB.1 k fun e=>i3 k e hk
     have:gw j B v:=by
      simp only[oO,pV,jm,Bool.false_or,Bool.or_eq_true] at hl
      rcases hl with hl | hl
      ·obtain ⟨xs,hm,hx2⟩:=AF hinv hl
       exact hv.ya hm hagB hx2 fun m hm2=>by cases hm2
      ·have:=r5 hinv hl
       exact hv.cL (hB.2 (by simpa using this)) hagB
     rw[this.to hj]
    rcases AG A dst e esz bytes z s x (j::rest) with h1 | ⟨B,h1,h2⟩ | ⟨p,bt,h1,h2⟩
    ·rw[h1] at hw;cases hw
    ·rw[h1] at hw ⊢;rw[km B h2];exact hw
    ·rw[h1] at hw ⊢
     exact .any fun m hm=>by rw[km _ (h2 m)];exact hw.AD m hm
   |_=>first | exact absurd rfl hsg | (simp[oO,pV,jm] at hl)
  ·rw[he] at hw;cases hw
theorem cG.qN{ay:eZ}{g:aB} : ∀ {l:List aB} {r:List aB} {A:af},eU ay A→(∀ j∈l,oE hs ay j g=true∧jF ay j=true)→cG P hs K (az (l++g::r) A)→cG P hs K (az (g::(l++r)) A)
 | [],r,A,_,_,h=>h
 |j::l,r,A,hinv,hi,h=>by
  have hj:=(Km (hi j (by simp)).1).1
  obtain ⟨v,hv,h2⟩:=cG.zC (g:=j) (rest:=l++g::r) hj h
  have h3:=cG.qN (l:=l) (r:=r) (hv.tx hinv (hi j (by simp)).2) (fun k hk=>hi k (by simp[hk])) h2
  refine cG.swap hinv (hi j (by simp)).1 ?_
  rw[hv.to hj];exact h3
end
def ua:List Nat→Bool
 | []=>true
 |a::l => !l.contains a&&ua l
def sB(hs:List FuncId)(ay:eZ)(gs:List aB)(cl:List Nat):List Nat→List Nat→Bool
 |_,[]=>true
 |before,i::σ=>(before.all fun j=>(cl.getD i 0).testBit j||oE hs ay (gs.getD j default) (gs.getD i default))&&sB hs ay gs cl (i::before) σ
def uq(hs:List FuncId)(ay:eZ)(on:List (List Nat))(gs:List aB)(cl:List Nat)(σ:List Nat):Bool :=
 (Nat.beq σ.length gs.length&&(ua σ&&(σ.all (fun i=>decide (i<gs.length))&&((List.range gs.length).all (fun i=>σ.contains i)&&gs.all fun g=>ug g.op&&jF ay g))))&&(sB hs ay gs cl [] σ&&(List.range gs.length).all fun i=>(on.getD i []).all (fun k=>decide (k<i))&&Nat.beq (cl.getD i 0) (pc cl (on.getD i [])))
theorem Lb:∀ {l:List Nat},ua l=true→l.Nodup
 | [],_=>List.nodup_nil
 |a::l,h=>by
  simp only[ua,Bool.and_eq_true,Bool.not_eq_true',List.contains_eq_mem,decide_eq_false_iff_not] at h
  exact List.nodup_cons.2 ⟨h.1,Lb h.2⟩
theorem AA{hs:List FuncId}{ay:eZ}{gs:List aB}{cl:List Nat} : ∀ {σ before:List Nat},sB hs ay gs cl before σ=true→∀ s1 i s2,σ=s1++i::s2→∀ j,j∈before∨j∈s1→(cl.getD i 0).testBit j=true∨oE hs ay (gs.getD j default) (gs.getD i default)=true
 | [],_,_,s1,i,s2,e,_,_=>by cases s1 <;>cases e
 |a::σ,before,h,s1,i,s2,e,j,hj=>by
  simp only[sB,Bool.and_eq_true,List.all_eq_true,Bool.or_eq_true] at h
  cases s1 with
  |nil =>
   simp only[List.nil_append,List.cons.injEq] at e
   obtain ⟨rfl,rfl⟩:=e
   rcases hj with hj | hj
   ·exact h.1 j hj
   ·cases hj
  |cons b s1 =>
   simp only[List.cons_append,List.cons.injEq] at e
   obtain ⟨rfl,rfl⟩:=e
   refine AA h.2 s1 i s2 rfl j ?_
   rcases hj with hj | hj
   ·exact .inl (List.mem_cons_of_mem _ hj)
   ·rcases List.mem_cons.1 hj with hj | hj
    ·exact .inl (by rw[hj];exact List.mem_cons_self)
    ·exact .inr hj
def jj(σ:List Nat)(listed:Array Bool):List Nat:=σ.filter fun i => !listed.getD i true
def oR(gs:List aB)(σ:List Nat)(listed:Array Bool):List aB:=(jj σ listed).map fun i=>gs.getD i default
theorem akP{σ:List Nat}{listed:Array Bool}{i:Nat}(hn:σ.Nodup)(hi:i∈σ)(hl:i<listed.size)(hu:listed.getD i true=false):∃ s1 s2,σ=s1++i::s2∧jj σ listed=(s1.filter fun j => !listed.getD j true)++i::(s2.filter fun j => !listed.getD j true) ∧
  jj σ (listed.setIfInBounds i true)=(s1.filter fun j => !listed.getD j true)++(s2.filter fun j => !listed.getD j true):=by
 obtain ⟨s1,s2,rfl⟩:=List.append_of_mem hi
 have same:∀ j,j≠i→(listed.setIfInBounds i true).getD j true=listed.getD j true:=fun j hj=>getD_set_ne true (Ne.symm hj)
 have hit:(listed.setIfInBounds i true).getD i true=true:=by simp[hl]
 have hnd:=List.nodup_append.1 hn
 have h1:∀ j∈s1,j≠i:=fun j hj=>hnd.2.2 j hj i List.mem_cons_self
 have h2:∀ j∈s2,j≠i:=fun j hj e=>(List.nodup_cons.1 hnd.2.1).1 (e▸hj)
 refine ⟨s1,s2,rfl,?_,?_⟩
 ·simp only[jj,List.filter_append,List.filter_cons,hu,Bool.not_false,if_true]
 ·simp only[jj,List.filter_append,List.filter_cons,hit,Bool.not_true,Bool.false_eq_true,if_false]
  congr 1
  ·exact List.filter_congr fun j hj=>by rw[same j (h1 j hj)]
  ·exact List.filter_congr fun j hj=>by rw[same j (h2 j hj)]
structure As (hs:List FuncId) (ay:eZ) (l:List Oper) (gs:List aB) (σ:List Nat):Prop where
 aiV:σ.Nodup
 lt:∀ i∈σ,i<gs.length
 all:∀ i,i<gs.length→i∈σ
 ok:∀ g∈gs,ug g.op=true∧jF ay g=true
 len:σ.length=gs.length
 py:∀ i o,l[i]?=some o→∀ k∈eE o,k<i
 xM:∀ (S:Nat→Prop),(∀ i o,l[i]?=some o→S i→∀ k∈eE o,S k)→∀ s1 i s2 o,σ=s1++i::s2→l[i]?=some o→(∀ k∈eE o,S k)→∀ j∈s1,¬ S j→oE hs ay (gs.getD j default) (gs.getD i default)=true
theorem akm{hs:List FuncId}{ay:eZ}{l:List Oper}{gs:List aB}{cl σ:List Nat}(hlen:gs.length=l.length)(h:uq hs ay (l.map eE) gs cl σ=true):As hs ay l gs σ:=by
 simp only[uq,Bool.and_eq_true,List.all_eq_true,decide_eq_true_eq,List.mem_range,List.contains_eq_mem] at h
 obtain ⟨⟨h1,h2,h3,h4,h5⟩,h6,h7⟩:=h
 have aX:∀ i o,l[i]?=some o→(∀ k∈eE o,k<i)∧(∀ j,(cl.getD i 0).testBit j=true→j∈eE o∨∃ k∈eE o,(cl.getD k 0).testBit j=true):=by
  intro i o ho
  have hi:i<l.length:=(List.getElem?_eq_some_iff.1 ho).1
  have h8:=h7 i (by omega)
  have hon:(l.map eE).getD i []=eE o:=by simp[List.getD_eq_getElem?_getD,ho]
  rw[hon] at h8
  have hb:=Nat.eq_of_beq_eq_true h8.2
  exact ⟨h8.1,fun j hj=>zN (by rw[←hb];exact hj)⟩
 refine ⟨Lb h2,h3,h4,h5,Nat.eq_of_beq_eq_true h1,fun i o ho=>(aX i o ho).1,?_⟩
 intro S hS s1 i s2 o e ho hon j hj hnj
 have key:∀ n i o,i≤n→l[i]?=some o→(∀ k∈eE o,S k)→∀ j,(cl.getD i 0).testBit j=true→S j:=by
  intro n
  induction n with
  |zero =>
   intro i o hi ho hon j hj
   obtain ⟨h8,h9⟩:=aX i o ho
   rcases h9 j hj with h | ⟨k,hk,_⟩
   ·exact hon j h
   ·have:=h8 k hk;omega
  |succ n ih =>
   intro i o hi ho hon j hj
   obtain ⟨h8,h9⟩:=aX i o ho
   rcases h9 j hj with h | ⟨k,hk,hjk⟩
   ·exact hon j h
   ·have hki:=h8 k hk
    have hkl:k<l.length:=Nat.lt_trans hki (List.getElem?_eq_some_iff.1 ho).1
    obtain ⟨ok,hok⟩:∃ ok,l[k]?=some ok:=⟨l[k],List.getElem?_eq_getElem hkl⟩
    exact ih k ok (by omega) hok (hS k ok hok (hon k hk)) j hjk
 rcases AA h6 s1 i s2 e j (.inr hj) with h | h
 ·exact absurd (key i i o (Nat.le_refl _) ho hon j h) hnj
 ·exact h
section
variable {c:cQ}
theorem agI{K:af→Prop}{hs:List FuncId}{ay:eZ}{bV:Array Oper}{Q:Exit→Act→World→Prop}{o:Oper}{g:aB}{rest:List aB}{A:af}{a:Act}{w:World}{Kw:Act→World→Prop}(hg:pC c.P c.n bV o=some g)(hi:eU ay A)(ho:ug g.op=true∧jF ay g=true)(hwp:cG c.P hs K (az (g::rest) A))(hs':cw c A a w)
  (hK:∀ B a' w',cG c.P hs K (az rest B)→eU ay B→cw c B a' w'→Kw a' w'):if Region.wanted o (yielded bV a.tmps) then o.wpIn c.bt 9 c.P a w Kw Q else (∀ f,o.about c.P w a.eval=some f→c.bt.fn f)∧Kw (a.put o.dst undef) w:=by
 obtain ⟨h1,h2,h3,h4⟩:=vC hg
 have step:cG c.P hs K (bj A g.dst g.op rest (az rest))→o.wpIn c.bt 9 c.P a w Kw Q:=fun h =>
  xy h1 h2.symm (by rw[h2];exact h3) (cG.one (Y:=c.Y) hi ho.1 ho.2 h) hs' (fun B a' w' hw hs2=>by
   cases hw with
   |done hk=>exact hK B a' w' hk.1 hk.2 hs2)
 simp only[az] at hwp
 rcases h4 with ⟨h5,h6⟩ | ⟨j,b,t,h5,h6,h7⟩
 ·rw[h6] at hwp
  have hw:Region.wanted o (yielded bV a.tmps)=true:=by simp[Region.wanted,h5]
  rw[hw,if_pos rfl]
  exact step hwp
 ·rw[h7] at hwp
  simp only at hwp
  split at hwp
  ·rename_i b' hb'
   rw[xF hs' h5 h6 hb']
   split at hwp
   ·rename_i hbb
    subst hbb
    simp only[BEq.rfl,if_true]
    exact step hwp
   ·rename_i hbb
    have:(b'==b)=false:=by simpa using hbb
    rw[this]
    simp only[Bool.false_eq_true,if_false]
    exact ⟨fun f _=>ox c f,hK _ _ _ hwp (hi.put (fun _=>rfl) fun _ _ _ _=>rfl) (by rw[h2];exact hs'.qj h3)⟩
  ·rename_i hb'
   rw[xG hs' h5 h6 hb']
   simp only[Bool.false_eq_true,if_false]
   exact ⟨fun f _=>ox c f,hK _ _ _ hwp (hi.put (fun _=>rfl) fun _ _ _ _=>rfl) (by rw[h2];exact hs'.qj h3)⟩
  ·cases hwp
theorem QW{K:af→Prop}{fs:List FuncId}{ay:eZ}{bV:Array Oper}{gs:List aB}{σ:List Nat}{Q:Exit→Act→World→Prop}(hQ:∀ B a w,K B→cw c B a w→Q .normal a w)(hgs:kN c.P c.n bV bV.toList=some gs)(hd:As fs ay bV.toList gs σ) :
  ∀ (fuel:Nat) (listed:Array Bool) (A:af) (a:Act) (w:World),listed.size=bV.size→(∀ i o,bV.toList[i]?=some o→listed.getD i false=true→∀ k∈eE o,listed.getD k false=true)→(jj σ listed).length≤fuel →
   eU ay A→cG c.P fs K (az (oR gs σ listed) A)→cw c A a w→wpAnyIn c.bt 9 c.P .any bV Q fuel listed a w:=by
 obtain ⟨hlen,hat⟩:=nt hgs
 have onOf_mem:∀ (o:Oper) (e:Edge),e∈o.after→Region.binds .any e=true→e.on∈eE o:=fun o e he hb=>by
  simp only[eE,List.mem_map,List.mem_filter]
  exact ⟨e,⟨by simpa using he,hb⟩,rfl⟩
 have of_onOf:∀ (o:Oper) (k:Nat),k∈eE o→∃ e∈o.after,Region.binds .any e=true∧e.on=k:=fun o k hk=>by
  simp only[eE,List.mem_map,List.mem_filter] at hk
  obtain ⟨e,⟨h1,h2⟩,h3⟩:=hk
  exact ⟨e,by simpa using h1,h2,h3⟩
 have hgl:gs.length=bV.size:=by rw[hlen,Array.length_toList]
 have last:∀ (listed:Array Bool) (A:af) (a:Act) (w:World),listed.size=bV.size→Region.ready .any bV listed=[]→cG c.P fs K (az (oR gs σ listed) A)→cw c A a w→Q .normal a w:=by
  intro listed A a w hsz hr hwp hs
  have hnone:jj σ listed=[]:=by
   have all:∀ n,∀ i,i<n→i<bV.size→listed.getD i true=true:=by
    intro n
    induction n with
    |zero=>intro i hi;omega
    |succ n ih =>
     intro i hi his
     cases hb:listed.getD i true with
     |true=>rfl
     |false =>
      exfalso
      have ho:bV[i]?=some bV[i]:=Array.getElem?_eq_getElem his
      have:i∈Region.ready .any bV listed:=mem_ready.2 ⟨hb,bV[i],ho,fun e he hbd=>by
       have hlt:=hd.py i bV[i] (by simp) e.on (onOf_mem _ e he hbd)
       have h1:=ih e.on (by omega) (by omega)
       have h2:e.on<listed.size:=by omega
       simpa[Array.getD_eq_getD_getElem?,h2] using h1⟩
      rw[hr] at this
      cases this
   simp only[jj]
   refine List.filter_eq_nil_iff.2 fun i hi =>?_
   have:=all (i+1) i (by omega) (by rw[←hgl];exact hd.lt i hi)
   simp only[this,Bool.not_true,Bool.false_eq_true,not_false_eq_true]
  simp only[oR,hnone,List.map_nil,az] at hwp
  cases hwp with
  |done hk=>exact hQ A a w hk hs
 intro fuel
 induction fuel with
 |zero =>
  intro listed A a w hsz hcl hcnt hinv hwp hs
  have hnone:jj σ listed=[]:=List.length_eq_zero_iff.1 (by omega)
  have hr:Region.ready .any bV listed=[]:=by
   refine List.eq_nil_iff_forall_not_mem.2 fun i hi =>?_
   obtain ⟨h1,o,ho,_⟩:=mem_ready.1 hi
   have:i∈jj σ listed:=by
    simp only[jj,List.mem_filter,h1,Bool.not_false,and_true]
    exact hd.all i (by rw[hgl];exact (Array.getElem?_eq_some_iff.1 ho).1)
   rw[hnone] at this
   cases this
  exact ⟨hr,last listed A a w hsz hr hwp hs⟩
 |succ fuel ih =>
  intro listed A a w hsz hcl hcnt hinv hwp hs
  refine ⟨fun hr=>last listed A a w hsz hr hwp hs,fun i hi =>?_⟩
  obtain ⟨hun,o,ho,hall⟩:=mem_ready.1 hi
  have hin:i<bV.size:=(Array.getElem?_eq_some_iff.1 ho).1
  obtain ⟨s1,s2,hσ,e1,e2⟩:=akP hd.aiV (hd.all i (by omega)) (by omega) hun
  have hol:bV.toList[i]?=some o:=by simpa using ho
  obtain ⟨g,hgi,hcg⟩:=hat i o hol
  have hon:∀ k∈eE o,listed.getD k false=true:=fun k hk=>by
   obtain ⟨e,h1,h2,h3⟩:=of_onOf o k hk
   exact h3▸hall e h1 h2
  have hgd:gs.getD i default=g:=by simp[List.getD_eq_getElem?_getD,hgi]
  have hwp':cG c.P fs K (az (g::oR gs σ (listed.setIfInBounds i true)) A):=by
   simp only[oR,e1,List.map_append,List.map_cons,hgd] at hwp
   simp only[oR,e2,List.map_append]
   refine cG.qN hinv (fun j hj =>?_) hwp
   obtain ⟨k,hk,rfl⟩:=List.mem_map.1 hj
   obtain ⟨hk1,hk2⟩:=List.mem_filter.1 hk
   have:=hd.xM (fun k=>listed.getD k false=true) hcl s1 i s2 o hσ hol hon k hk1 (by
    have hks:k<listed.size:=by
     have:=hd.lt k (by rw[hσ];exact List.mem_append_left _ hk1)
     omega
    simp[Array.getD_eq_getD_getElem?,hks] at hk2 ⊢
    exact hk2)
   rw[hgd] at this
   refine ⟨this,(hd.ok _ ?_).2⟩
   have hkl:=hd.lt k (by rw[hσ];exact List.mem_append_left _ hk1)
   rw[List.getD_eq_getElem?_getD,List.getElem?_eq_getElem hkl]
   exact List.getElem_mem _
  unfold wpOpIn
  rw[ho]
  refine agI hcg hinv (hd.ok g (List.mem_of_getElem? hgi)) hwp' hs fun B a' w' hw hiB hs'=>ih _ B a' w' (by simpa using hsz) ?_ ?_ hiB hw hs'
  ·intro m om hom hm k hk
   by_cases hmi:m=i
   ·subst hmi
    rw[hol,Option.some.injEq] at hom
    subst hom
    exact getD_set_true (hon k hk)
   ·rw[getD_set_ne false (Ne.symm hmi)] at hm
    exact getD_set_true (hcl m om hom hm k hk)
  ·have:(jj σ listed).length=(jj σ (listed.setIfInBounds i true)).length+1:=by
    rw[e1,e2];simp;omega
   omega
def nU(σ:List Nat)(gs:List aB):List aB:=σ.map fun i=>gs.getD i default
theorem ab.akM{Q:Exit→af→Prop}{A:af}{on:List (List Nat)}{gs:List aB}(hs:List FuncId)(ay:eZ)(cl σ:List Nat)(hd:uq hs ay on gs cl σ=true)(hi:eU ay A)(h:∀ K:af→Prop,(∀ B,Q .normal B→K B)→cG c.P hs K (az (nU σ gs) A)):ab c (.bW (some on) gs) Q A:=by
 intro code hc a w hs'
 cases code <;>simp only[fq] at hc <;>try (first | (cases hc;done) | ((repeat' split at hc) <;>cases hc;done))
 rename_i id bV draw
 split at hc
 ·rename_i gs' hgs
  split at hc
  case isFalse=>cases hc
  rename_i hok
  simp only[Option.some.injEq,aM.bW.injEq] at hc
  obtain ⟨he,rfl⟩:=hc
  cases draw with
  |false=>cases he
  |true =>
   simp only[cond_true,Option.some.injEq] at he
   subst he
   simp only[Bool.not_true,Bool.false_or] at hok
   have hp:=akm (nt hgs).1 hd
   refine wpIn_region_any hok (QW (K:=Q .normal) (fun B a w hk hs=>⟨B,hk,hs⟩) hgs hp bV.size (Array.replicate bV.size false) A a _ (by simp) ?_ ?_ hi ?_ ?_)
   ·intro i o _ h
    exfalso
    simp only[Array.getD_eq_getD_getElem?,Array.getElem?_replicate] at h
    split at h <;>simp at h
   ·refine Nat.le_trans (List.length_filter_le _ _) ?_
    rw[hp.len,(nt hgs).1,Array.length_toList];exact Nat.le_refl _
   ·have hall:jj σ (Array.replicate bV.size false)=σ:=by
     simp only[jj]
     refine List.filter_eq_self.2 fun i hi =>?_
     have h1:=hp.lt i hi
     rw[(nt hgs).1,Array.length_toList] at h1
     simp[h1]
    simp only[oR,hall]
    exact h _ fun _ hb=>hb
   ·obtain ⟨D,E,hs'⟩:=hs'
    exact ⟨D,E,hs'.grow (w' := { w with drawn:=w.drawn+1 }) ⟨rfl,rfl,rfl,Nat.le_refl _,fun _ _=>rfl⟩ (fun _ _ h=>h) (fun _ _ h _=>h) (fun b o h=>hs'.dg b o h)⟩
 ·cases hc
def nJ(ts:List (Nat×I)):eZ→Prop
 | []=>True
 |(s,ns)::ay=>(cn ts s).only (fun n=>ns.contains n)=true∧nJ ts ay
theorem eU.of{ts:List (Nat×I)}{os:List (Nat×ai)}{ay:eZ}(h:nJ ts ay):eU ay (av ts os):=by
 intro s ns hn
 simp only[av]
 induction ay with
 |nil=>cases hn
 |cons q ay ih =>
  obtain ⟨s',ns'⟩:=q
  simp only[nJ] at h
  simp only[jB,List.find?_cons] at hn
  split at hn
  ·rename_i e
   simp only[Option.map_some,Option.some.injEq] at hn
   simp only[beq_iff_eq] at e
   subst e hn
   exact h.1
  ·exact ih h.2 hn
end
end Go.Abs
namespace Go.Abs
open Go Go.RowKit
open Enc (enc)
theorem alb{P:Program}(w:World)(tS tR e:TypeId)(ht:P.underlying tS=some (.slice e))(size:Nat)(hz:∀ w,(Go.sizeOf e).run P w=.ok size w)
  (a b:Addr) (la ca lb cb:Nat) (hne:a.block≠b.block) (tA tB:TypeId) (tC kB:Nat) (hsa:w.shape? a.block=some (tA,tC+1)) (hsb:w.shape? b.block=some (tB,kB+1)) (hfb:w.frozen? b=false) (hfe:w.frozen? { block:=b.block,off:=kB+1 } = false) :
  (Extern.SlicesOverlaps.overlaps #[tS,tS] #[tR] #[.slice (some a) la ca,.slice (some b) lb cb]).run P w=.ok (.bool false) w:=by
 have hnb:(a.block != b.block)=true:=by simpa using hne
 have hnb':(a.block==b.block)=false:=by simpa using hne
 change Sem.run P (α:=Value) (do
  let some t := (#[tS, tS] : Array TypeId)[0]? | stuck "slices.overlaps: no parameter types"
  let .slice elem ← underlying t | stuck "slices.overlaps: slice type expected"
  let size ←sizeOf elem
  match (some a:Option Addr),(some b:Option Addr) with
  |some a,some b =>
   if la=0∨lb=0∨size=0 then pure (Value.bool false)
   else if a.block != b.block&&(←frozen a)&&(←frozen b) then unsupported .addressObserved
   else do
    if a.block != b.block then do
     noView a;noView b
     if ← mayBeOne a b then return Value.bool ((← choose (.extern "sameAddr.stringBytes" 2)) == 1)
    pure (Value.bool (a.block==b.block&&a.off<b.off+lb*size&&b.off<a.off+la*size))
  |_,_=>pure (Value.bool false)) w=_
 by_cases h0:la=0∨lb=0∨size=0
 ·simp[run_underlying ht,hz,h0]
 ·cases hfa:w.frozen? a <;>cases hfk:w.frozen? { block:=a.block,off:=tC+1 } <;>
   simp[run_underlying ht,hz,h0,hnb,hnb',frozen,noView,viewAt,mayBeOne,stringish,shape,Sem.run,hsa,hsb,hfa,hfb,hfe,hfk]
theorem Om{P:Program}(w:World)(tS tR e:TypeId)(ht:P.underlying tS=some (.slice e))(size:Nat)(hz:∀ w,(Go.sizeOf e).run P w=.ok size w)(a:Option Addr)(b:Addr)(ca lb cb:Nat) :
  (Extern.SlicesOverlaps.overlaps #[tS,tS] #[tR] #[.slice a 0 ca,.slice (some b) lb cb]).run P w=.ok (.bool false) w:=by
 cases a with
 |none =>
  change Sem.run P (α:=Value) (do
   let some t := (#[tS, tS] : Array TypeId)[0]? | stuck "slices.overlaps: no parameter types"
   let .slice elem ← underlying t | stuck "slices.overlaps: slice type expected"
   let size ←sizeOf elem
   pure (Value.bool false)) w=_
  simp[run_underlying ht,hz]
 |some a =>
  change Sem.run P (α:=Value) (do
   let some t := (#[tS, tS] : Array TypeId)[0]? | stuck "slices.overlaps: no parameter types"
   let .slice elem ← underlying t | stuck "slices.overlaps: slice type expected"
   let size ←sizeOf elem
   if (0:Nat)=0∨lb=0∨size=0 then pure (Value.bool false)
   else if a.block != b.block&&(←frozen a)&&(←frozen b) then unsupported .addressObserved
   else do
    if a.block != b.block then do
     noView a;noView b
     if ← mayBeOne a b then return Value.bool ((← choose (.extern "sameAddr.stringBytes" 2)) == 1)
    pure (Value.bool (a.block==b.block&&a.off<b.off+lb*size&&b.off<a.off+0*size))) w=_
  simp[run_underlying ht,hz]
theorem ali{w:World}{b o:Nat}{v:Value}(h:w.cell? ⟨b,o,none⟩=some v):∃ t k,w.shape? b=some (t,k+1):=by
 simp only[World.cell?] at h
 cases hb:w.heap[b]? with
 |none=>rw[hb] at h;cases h
 |some ob =>
  rw[hb] at h
  cases ob with
  |cells cs T fr =>
   simp only at h
   have hlt:o<cs.size:=(Array.getElem?_eq_some_iff.1 (by simpa using h)).1
   exact ⟨T,cs.size-1,by simp only[World.shape?,hb];congr 2;omega⟩
  |_=>cases h
theorem amc {P : Program} {f : FuncId} {fn : Func} {tS tR e : TypeId} (hf : P.funcs[f]? = some fn) (hname : (fn.name == "runtime.NumGoroutine") = false) (hb : fn.body.isNone = true) (hn : Extern.findNext fn = none) (he : Extern.find fn = some (Extern.SlicesOverlaps.overlaps #[tS, tS] #[tR]))
  (ht:P.underlying tS=some (.slice e)) (hi:(P.info? e).isSome=true) {A:af} {n sz sz' lo k:Nat} {p:List Nat} {y:I} {es fs:List I} (hA:A.o n=some (.box y)) (hat:y.at p=some (.agg fs)) (hy:y.size≠0) (hsz:sz'≠0):Ay P A f [.slice sz' es,.view n p sz lo k] (.bool false):=by
 intro c a w D E vs hP hs hargs
 subst hP
 obtain ⟨i,hi⟩:=Option.isSome_iff_exists.1 hi
 have hz:∀ w,(Go.sizeOf e).run c.P w=.ok i.size w:=fun w=>by simp[sizeOf,typeInfo,hi]
 cases hargs with
 |cons h1 hrest =>
  cases hrest with
  |cons h2 hnil =>
   cases hnil
   rename_i v1 v2
   refine ⟨.bool false,?_,nQ false⟩
   rw[run_callFunc_extern hf hname hb hn he]
   obtain ⟨ad,cap,rfl,c1,c2,c3,iy⟩:=mZ h1
   obtain ⟨y',b,cs,T,off,d1,d2,d3,q1,q2,q3,q4,q5,q6,q7,q8,q9,q10,q11,q12,rfl⟩:=hs.view (fs:=fs) h2 (by simp only[cC,hA,hat])
   rw[hA] at q1
   simp only[Option.some.injEq,ai.box.injEq] at q1
   subst q1
   rcases c3 with rfl | ⟨b1,off1,cs1,rfl,r1,dH⟩
   ·rw[List.length_nil,Om w tS tR e ht i.size hz];rfl
   ·cases es with
    |nil=>rw[List.length_nil,Om w tS tR e ht i.size hz];rfl
    |cons e0 es =>
     have hl:=aG.length _ _ dH
     have he0:=iy e0 (by simp)
     have hpos:0<cs1.length:=by rw[hl];simp only[I.sizes];omega
     have hc:=r1 0 cs1[0] (List.getElem?_eq_getElem hpos)
     obtain ⟨tA,tC,hsa⟩:=ali hc.1
     have ho:=hs.bS n
     rw[hA] at ho
     obtain ⟨b',cs',T',k1,k2,k3,k4,k5⟩:=ho
     rw[q2] at k1
     simp only[Option.some.injEq,bU.aC.injEq,and_true] at k1
     subst k1
     have hne:b1≠b:=fun e1=>k5 _ (e1▸hc.2)
     have hcs:cs.size≠0:=by
      have:=ah.length _ _ q9
      rw[Array.length_toList] at this
      omega
     obtain ⟨kB,hkB⟩:∃ kB,cs.size=kB+1:=⟨cs.size-1,by omega⟩
     rw[alb w tS tR e ht i.size hz ⟨b1,off1,none⟩ ⟨b,off+lo*sz,none⟩ _ _ _ _ hne tA T tC kB hsa (by simp only[World.shape?,q3,hkB]) (by simp[World.frozen?,q3]) (by simp[World.frozen?,q3])]
     rfl
noncomputable def vr(A:af)(d:Option Nat)(esz bytes:Nat)(z s:I)(rest:List aB):I→cI
 | .int _ m=>qK A d esz bytes z m.toNat s (er A esz s) (az rest)
 |_=>.fail
theorem ai5(A:af)(d:Option Nat)(rest:List aB)(e esz bytes:Nat)(z:I)(s n:aH):bO A d (.kL e esz bytes z s n) rest=vr A d esz bytes z (ae A s) rest (ae A n):=by
 simp only[bO,bj]
 cases ae A n <;>rfl
theorem ajG(A:af)(d:Option Nat)(rest:List aB)(f:FuncId)(args:List aH):bO A d (.jq f args) rest=.jq f (args.map (ae A)) d rest A:=rfl
def sN(A:af):I→Option I
 | .nils _ | .c0 _=>some (.int .i64 ((0:Nat):Int))
 | .view n p _ lo _=>match fw (eW p (A.o n)) with
  |some fs=>some (.int .i64 ((fs.length-lo:Nat):Int))
  |none=>none
 |_=>none
theorem ajc(A:af)(d:Option Nat)(rest:List aB)(x:aH):bO A d (.cap x) rest=cN (sN A (ae A x)) (db d rest A):=by
 simp only[bO,bj,bx]
 cases ae A x <;>try rfl
 rename_i n p sz l0 k
 simp only[sN,lK,gL]
 cases eW p (A.o n) with
 |none=>rfl
 |some c=>cases c <;>rfl
theorem uc(A:af)(d:Option Nat)(rest:List aB)(esz:Nat)(x y:aH):bO A d (.iI esz x y) rest=ot A d esz (az rest) (ae A x) (er A esz (ae A y)):=rfl
section
variable {α:Type} [Enc α] {P:Program} {Y:Value→List I→List (Nat×ai)→cR→Prop} {K:af→Prop} {A:af} {rest:List aB} {esz bytes:Nat}
theorem TL{n lo k sz:Nat}{xs:List α}(ho:A.o n=some (.box (.agg (xs.map enc)))):sN A (.view n [] sz lo k)=some (.int .i64 ((xs.length-lo:Nat):Int)):=by
 have h2:(I.agg (xs.map (enc (α:=α)))).at []=some (.agg (xs.map enc)):=rfl
 simp only[sN,eW,ho,h2,fw,I.du,List.length_map]
theorem ng{n lo k:Nat}{xs:List α}(ho:A.o n=some (.box (.agg (xs.map enc))))(h:lo+k≤xs.length):er A esz (.view n [] esz lo k)=some (((xs.drop lo).take k).map enc):=by
 have h1:cC A (.ptr n [])=some (.agg (xs.map enc)):=by simp only[cC,ho];rfl
 simp only[er,h1,List.length_map]
 rw[if_pos ⟨h,trivial⟩,List.map_take,List.map_drop]
theorem zB{xs ys:List α}(h:xs.length=ys.length):I.cK (xs.map enc)=I.cK (ys.map enc):=by
 rw[r2,r2,h]
theorem sP{d:Option Nat}{n lo l c:Nat}{xs ys:List α}(ho:A.o n=some (.box (.agg (xs.map enc))))(hl:lo+l≤xs.length)(hc:min ys.length l=c) :
  ot A d esz (az rest) (.view n [] esz lo l) (some (ys.map enc))=az rest ((A.aK n (.box (.agg ((xs.take lo++(ys.take c++xs.drop (lo+c))).map enc)))).aJ d (.int .i64 (c:Nat))):=by
 have h2:(I.agg (xs.map (enc (α:=α)))).at []=some (.agg (xs.map enc)):=rfl
 have h1:I.cK ((ys.map (enc (α:=α))).take c)=I.cK (((xs.map (enc (α:=α))).drop lo).take c):=by
  rw[←List.map_take,←List.map_drop,←List.map_take]
  exact zB (by rw[List.length_take,List.length_take,List.length_drop];omega)
 have hc':min (ys.map (enc (α:=α))).length l=c:=by rw[List.length_map];exact hc
 simp only[ot,ho,h2,hc']
 rw[if_pos ⟨rfl,by rw[hc'];exact h1⟩]
 have h3:((ys.map (enc (α:=α))).take c).length=c:=by rw[List.length_take,List.length_map];omega
 simp only[iA,gi,h3,List.map_append,List.map_take,List.map_drop]
theorem a8.Rb{d:Nat}(z:α)(hs:Enc.sz α=esz){n l m:Nat}{xs:List α}(ho:A.o n=some (.box (.agg (xs.map enc))))(hl:l≤xs.length)(hm:0<m)(hr:xs.length<l+m)(hf:A.o d=none)(hb:(l+m)*bytes≤140737488355328)(hml:l+m≤maxLen)
  (h:∀ q,a8 P Y false K (az rest ((A.aK d (.box (.agg ((xs.take l++(List.replicate m z++List.replicate q z)).map enc)))).aJ (some d) (.view d [] esz 0 (l+m))))):a8 P Y false K (vr A (some d) esz bytes (enc z) (.view n [] esz 0 l) rest (.int .i64 (m:Nat))):=by
 have h1:=ng (A:=A) (esz:=esz) (lo:=0) (k:=l) ho (by omega)
 have h2:(I.agg (xs.map (enc (α:=α)))).at []=some (.agg (xs.map enc)):=rfl
 have h4:(xs.take l).length=l:=by rw[List.length_take];omega
 simp only[vr,h1,List.drop_zero,qK,ho,h2,List.length_map,Int.toNat_natCast]
 rw[if_pos ⟨hm,by omega⟩]
 simp only[gl,hf,List.length_map,h4,List.length_replicate]
 rw[if_pos ⟨hb,hml⟩]
 refine .any rfl fun q _ =>?_
 have:=h q
 simp only[List.map_append,List.map_replicate] at this
 exact this
theorem Q4{d:Option Nat}{e:Nat}(z:I)(hs:Enc.sz α=esz){n l:Nat}{xs ys:List α}(hy:ys≠[])(ho:A.o n=some (.box (.agg (xs.map enc))))(hr:l+ys.length≤xs.length) :
  gY A d e esz bytes z (enc ys) rest (.view n [] esz 0 l)=az rest ((A.aK n (.box (.agg ((xs.take l++(ys++xs.drop (l+ys.length))).map enc)))).aJ d (.view n [] esz 0 (l+ys.length))):=by
 have h1:=ng (A:=A) (esz:=esz) (lo:=0) (k:=l) ho (by omega)
 have h2:(I.agg (xs.map (enc (α:=α)))).at []=some (.agg (xs.map enc)):=rfl
 have h3:I.cK (ys.map (enc (α:=α)))=I.cK (((xs.map (enc (α:=α))).drop l).take ys.length):=by
  rw[←List.map_drop,←List.map_take]
  exact zB (by rw[List.length_take,List.length_drop];omega)
 simp only[gY,h1,o7 A esz ys hs,fp]
 rw[if_neg (by simpa using hy)]
 simp only[ho,h2,List.length_map,Nat.zero_add]
 rw[if_pos hr,if_pos ⟨rfl,by rw[List.length_map,Nat.zero_add];exact h3⟩]
 simp only[iA,gi,List.length_map,List.map_append,List.map_take,List.map_drop]
theorem a8.Q0{d e:Nat}(z:α)(hs:Enc.sz α=esz){n l:Nat}{xs ys:List α}(hy:ys≠[])(ho:A.o n=some (.box (.agg (xs.map enc))))(hl:l≤xs.length)(hr:xs.length<l+ys.length)(hf:A.o d=none)(hb:(l+ys.length)*bytes≤140737488355328)(hml:l+ys.length≤maxLen)
  (h:∀ q,a8 P Y false K (az rest ((A.aK d (.box (.agg ((xs.take l++(ys++List.replicate q z)).map enc)))).aJ (some d) (.view d [] esz 0 (l+ys.length))))):a8 P Y false K (gY A (some d) e esz bytes (enc z) (enc ys) rest (.view n [] esz 0 l)):=by
 have h1:=ng (A:=A) (esz:=esz) (lo:=0) (k:=l) ho (by omega)
 have h2:(I.agg (xs.map (enc (α:=α)))).at []=some (.agg (xs.map enc)):=rfl
 have h4:(xs.take l).length=l:=by rw[List.length_take];omega
 simp only[gY,h1,List.drop_zero,o7 A esz ys hs,fp]
 rw[if_neg (by simpa using hy)]
 simp only[ho,h2,List.length_map,Nat.zero_add]
 rw[if_neg (by omega)]
 simp only[gl,hf,List.length_map,h4]
 rw[if_pos ⟨hb,hml⟩]
 refine .any rfl fun q _ =>?_
 have:=h q
 simp only[List.map_append,List.map_replicate] at this
 exact this
theorem a8.Q1{d e q0:Nat}(z:α){l:List α}(hs:Enc.sz α=esz)(hl:l≠[])(hf:A.o d=none)(hb:l.length*bytes≤140737488355328)(hml:l.length≤maxLen)
  (h:∀ m,a8 P Y false K (az rest ((A.aK d (.box (.agg ((l++List.replicate m z).map enc)))).aJ (some d) (.view d [] esz 0 l.length)))):a8 P Y false K (gY A (some d) e esz bytes (enc z) (enc l) rest (.nils q0)):=by
 have hne:l.map (enc (α:=α))≠[]:=by simpa using hl
 have h1:er A esz (.nils q0)=some []:=rfl
 simp only[gY,h1,o7 A esz l hs,fp,if_neg hne,gl,hf,List.length_nil,Nat.zero_add,List.length_map,if_pos (And.intro hb hml),List.nil_append]
 refine .any rfl fun m _ =>?_
 have:=h m
 simp only[List.map_append,List.map_replicate] at this
 exact this
end
theorem OD{n:Nat}{p:List Nat}{sz k total i:Nat}(h:i≤k)(hk:k≤total):∃ y,iq n p sz 0 k total (some (.int .i64 i)) none none=some y:=by
 simp only[iq,iw]
 rw[if_pos ⟨by omega,by omega,by omega⟩]
 split <;>exact ⟨_,rfl⟩
theorem KS(k:Nat):cn [] k=.df:=rfl
def ic(ay:List Nat):List (Nat×I)→List (Nat×I)
 | []=>[]
 |(s,v)::ts=>if ay.contains s=true then (s,v)::ic ay ts else ic ay ts
theorem ahS(ay:List Nat):ic ay []=[]:=rfl
theorem ahR(ay:List Nat)(s:Nat)(v:I)(ts:List (Nat×I)):ic ay ((s,v)::ts)=if ay.contains s=true then (s,v)::ic ay ts else ic ay ts:=rfl
theorem KR(ay:List Nat)(t:Nat):∀ ts,cn (ic ay ts) t=.df∨cn (ic ay ts) t=cn ts t
 | []=>.inl rfl
 |(s,v)::ts=>by
  simp only[ic]
  have ih:=KR ay t ts
  by_cases hs:ay.contains s=true
  ·rw[if_pos hs]
   simp only[cn]
   split
   ·exact .inr rfl
   ·exact ih
  ·rw[if_neg hs]
   simp only[cn]
   split
   ·rename_i e
    subst e
    left
    have:∀ ts,cn (ic ay ts) t=.df:=by
     intro ts
     induction ts with
     |nil=>rfl
     |cons q ts ih2 =>
      obtain ⟨s',v'⟩:=q
      simp only[ic]
      split
      ·rename_i h'
       simp only[cn]
       have:t≠s':=fun e=>hs (e▸h')
       rw[if_neg this];exact ih2
      ·exact ih2
    exact this ts
   ·exact ih
theorem ab.fT(ay:List Nat){c:cQ}{x:aM}{Q:Exit→af→Prop}{ts:List (Nat×I)}{os:List (Nat×ai)}(h:ab c x Q (av (ic ay ts) os)):ab c x Q (av ts os):=by
 refine ab.sub ?_ h
 rintro cc a w ⟨D,E,hs⟩
 refine ⟨D,E,hs.sz,hs.eV,fun t =>?_,hs.dZ,hs.c6,hs.dg,hs.bS,hs.cU,hs.eb,hs.ff,hs.cL,hs.fk,hs.fL⟩
 simp only[av]
 rcases KR ay t ts with e | e
 ·rw[e];simp[aW]
 ·rw[e];exact hs.ew t
theorem x4:(∀ ay,ic ay []=[])∧(∀ ay s v ts,ic ay ((s,v)::ts)=if ay.contains s=true then (s,v)::ic ay ts else ic ay ts)∧(∀ (a:Nat) l b,(a::l).contains b=(b==a||l.contains b))∧(∀ b:Nat,([]:List Nat).contains b=false)∧(∀ b,(false||b)=b)∧(∀ b,(true||b)=true)∧(∀ b,(b||true)=true)∧(∀ b,(b||false)=b)∧((false=true)=False) :=
 ⟨ahS,ahR,fun _ _ _=>List.contains_cons,fun _=>rfl,fun _=>rfl,fun _=>rfl,fun b=>by cases b <;>rfl,fun b=>by cases b <;>rfl,by simp⟩
end Go.Abs
namespace Go.Abs
open Go Go.RowKit
open Enc (enc)
def yi:Option ai→Option (List I×List I)
 |some (.cz ks vs)=>some (ks,vs)
 |_=>none
noncomputable def yr(A:af)(n:Nat)(rest:List aB):Option (List I×List I)→cI
 |some (ks,vs)=>az rest (A.aK n (.cz ks vs))
 |none=>.fail
noncomputable def yq(A:af)(n:Nat)(ty:cM)(k v:I)(rest:List aB):Option ai→cI
 |some (.cz ks vs)=>yr A n rest (gp ty k v ks vs)
 |_=>.fail
noncomputable def yp(A:af)(ty:cM)(k v:I)(rest:List aB):I→cI
 | .mref n=>yq A n ty k v rest (A.o n)
 |_=>.fail
noncomputable def yn(A:af)(d:Nat)(rest:List aB):Option ai→cI
 |none=>az rest ((A.aK d (.cz [] [])).put d (.mref d))
 |some _=>.fail
open Classical in
noncomputable def tW(A:af)(d bytes:Nat)(z:I)(rest:List aB):I→cI
 | .int _ n=>if 0≤n∧n.toNat*bytes≤281474976710656∧n.toNat≤maxLen then az rest ((A.aK d (.box (.agg (List.replicate n.toNat z)))).put d (.view d [] 1 0 n.toNat)) else .fail
 |_=>.fail
noncomputable def tV(A:af)(d bytes:Nat)(z n:I)(rest:List aB):Option ai→cI
 |none=>tW A d bytes z rest n
 |some _=>.fail
noncomputable def zk(A:af)(d:Nat)(rest:List aB):I→cI
 | .cT ks vs=>az rest ((A.aK d (.it ks vs (List.range ks.length) none)).put d (.dv d))
 |_=>.fail
noncomputable def uK(A:af)(d:Nat)(x:I)(rest:List aB):Option ai→cI
 |none=>zk A d rest x
 |some _=>.fail
def wc:Option ai→Option I
 |some (.it ks vs _ cur)=>pI ks vs cur
 |_=>none
def wb(A:af):I→Option I
 | .dv n=>wc (A.o n)
 |_=>none
open Classical in
noncomputable def qe(A:af)(d:Option Nat)(n:Nat)(rest:List aB):Option ai→cI
 |some (.it ks vs left _)=>if left=[] then az rest (A.aJ d (.tuple [.bool false])) else
   .any (fun i=>i∈left) fun i=>match ks[i]?,vs[i]? with
    |some kk,some x=>az rest ((A.aK n (.it ks vs (left.filter (· != i)) (some i))).aJ d (.tuple [.bool true,kk,x]))
    |_,_=>.fail
 |_=>.fail
noncomputable def yz(A:af)(d:Option Nat)(rest:List aB):I→cI
 | .dv n=>qe A d n rest (A.o n)
 |_=>.fail
section
variable (d:Option Nat) (rest:List aB) (A:af)
theorem ajw(x:aH):bO A d (.nilC x) rest=cN (mP (ae A x)) (db d rest A):=rfl
theorem ajA(neg:Bool)(x y:aH):bO A d (.ptrE neg x y) rest=cN (mT neg (jb (ae A x)) (jb (ae A y))) (db d rest A):=rfl
theorem ajq(ty:cM)(z:I)(ok:Bool)(m k:aH):bO A d (.lk ty z ok m k) rest=cN (rA ty z ok (ae A k) (gE A (ae A m))) (db d rest A):=rfl
theorem air(n:Nat):gE A (.mref n)=yi (A.o n):=by
 simp only[gE];cases A.o n with
 |none=>rfl
 |some y=>cases y <;>rfl
theorem aju(ty:cM)(m k v:aH):bO A none (.gQ ty m k v) rest=yp A ty (ae A k) (ae A v) rest (ae A m):=by
 simp only[bO,bj]
 cases ae A m <;>rfl
theorem ajs(d:Nat):bO A (some d) .jX rest=yn A d rest (A.o d):=by
 simp only[bO,bj];cases A.o d <;>rfl
theorem ajt(d e bytes:Nat)(z:I)(n:aH):bO A (some d) (.ky e bytes z n) rest=tV A d bytes z (ae A n) rest (A.o d):=by
 simp only[bO,bj]
 cases A.o d with
 |some _=>rfl
 |none=>simp only[tV];cases ae A n <;>rfl
theorem ajB(d:Nat)(x:aH):bO A (some d) (.kF x) rest=uK A d (ae A x) rest (A.o d):=by
 simp only[bO,bj]
 cases A.o d with
 |some _=>rfl
 |none=>simp only[uK];cases ae A x <;>rfl
theorem ajf(x:aH):bO A d (.ent x) rest=cN (wb A (ae A x)) (db d rest A):=by
 simp only[bO,bj,bx]
 cases ae A x <;>rfl
theorem ajy(x:aH):bO A d (.jD x) rest=yz A d rest (ae A x):=by
 simp only[bO,bj]
 cases ae A x <;>rfl
end
theorem eJ :
  (∀ d rest A x,bO A d (.nilC x) rest=cN (mP (ae A x)) (db d rest A))∧(∀ n p,mP (.ptr n p)=some (.ptr n p))∧(∀ x,mP (.ref x)=some (.ref x)) ∧
  (∀ d rest A neg x y,bO A d (.ptrE neg x y) rest=cN (mT neg (jb (ae A x)) (jb (ae A y))) (db d rest A))∧(jb .nilp=some true)∧(∀ n p,jb (.ptr n p)=some false)∧(∀ x,jb (.ref x)=some false) ∧
  (mT false (some true) (some true)=some (.bool true))∧(mT false (some false) (some true)=some (.bool false))∧(mT true (some true) (some true)=some (.bool false))∧(mT true (some false) (some true)=some (.bool true)) ∧
  (∀ d rest A ty z ok m k,bO A d (.lk ty z ok m k) rest=cN (rA ty z ok (ae A k) (gE A (ae A m))) (db d rest A))∧(∀ A n,gE A (.mref n)=yi (A.o n))∧(∀ A ks vs,gE A (.cT ks vs)=some (ks,vs))∧(∀ ks vs,yi (some (.cz ks vs))=some (ks,vs)) ∧
  (∀ ty z ok k ks vs,rA ty z ok k (some (ks,vs))=rB ok (gC ty z k ks vs))∧(∀ v b,rB false (some (v,b))=some v)∧(∀ v b,rB true (some (v,b))=some (.tuple [v,.bool b])) ∧
  (∀ rest A ty m k v,bO A none (.gQ ty m k v) rest=yp A ty (ae A k) (ae A v) rest (ae A m))∧(∀ A ty k v rest n,yp A ty k v rest (.mref n)=yq A n ty k v rest (A.o n))∧(∀ A n ty k v rest ks vs,yq A n ty k v rest (some (.cz ks vs))=yr A n rest (gp ty k v ks vs)) ∧
  (∀ A n rest ks vs,yr A n rest (some (ks,vs))=az rest (A.aK n (.cz ks vs))) ∧
  (∀ rest A d,bO A (some d) .jX rest=yn A d rest (A.o d))∧(∀ A d rest,yn A d rest none=az rest ((A.aK d (.cz [] [])).put d (.mref d))) ∧
  (∀ rest A d e bytes z n,bO A (some d) (.ky e bytes z n) rest=tV A d bytes z (ae A n) rest (A.o d))∧(∀ A d bytes z n rest,tV A d bytes z n rest none=tW A d bytes z rest n) ∧
  (∀ rest A d x,bO A (some d) (.kF x) rest=uK A d (ae A x) rest (A.o d))∧(∀ A d x rest,uK A d x rest none=zk A d rest x)∧(∀ A d rest ks vs,zk A d rest (.cT ks vs)=az rest ((A.aK d (.it ks vs (List.range ks.length) none)).put d (.dv d))) ∧
  (∀ d rest A x,bO A d (.ent x) rest=cN (wb A (ae A x)) (db d rest A))∧(∀ A n,wb A (.dv n)=wc (A.o n))∧(∀ ks vs l cur,wc (some (.it ks vs l cur))=pI ks vs cur) ∧
  (∀ d rest A x,bO A d (.jD x) rest=yz A d rest (ae A x))∧(∀ A d rest n,yz A d rest (.dv n)=qe A d n rest (A.o n)) :=
 ⟨ajw,fun _ _=>rfl,fun _=>rfl,ajA,rfl,fun _ _=>rfl,fun _=>rfl,rfl,rfl,rfl,rfl,ajq,air,fun _ _ _=>rfl,fun _ _=>rfl,fun _ _ _ _ _ _=>rfl,fun _ _=>rfl,fun _ _=>rfl,
  fun rest A ty m k v=>aju rest A ty m k v,fun _ _ _ _ _ _=>rfl,fun _ _ _ _ _ _ _ _=>rfl,fun _ _ _ _ _=>rfl,fun rest A d=>ajs rest A d,fun _ _ _=>rfl,fun rest A d e bytes z n=>ajt rest A d e bytes z n,fun _ _ _ _ _ _=>rfl,
  fun rest A d x=>ajB rest A d x,fun _ _ _ _=>rfl,fun _ _ _ _ _=>rfl,ajf,fun _ _=>rfl,fun _ _ _ _=>rfl,ajy,fun _ _ _ _=>rfl⟩
theorem eT:(∀ n p z lo k,bY none (.view n p z lo k)=true)∧(∀ n,bY none (.mref n)=true)∧(∀ n p,bY none (.ptr n p)=true)∧(∀ x,bY none (.ref x)=true)∧bY none .nilp=true∧bY none .dh=true∧bY none (.raw (.map none))=true∧(∀ ks vs,bY none (.cT ks vs)=true)∧(∀ {α:Type} [Enc α] (l:List α),bY none (enc l)=true) :=
 ⟨fun _ _ _ _ _=>rfl,fun _=>rfl,fun _ _=>rfl,fun _=>rfl,rfl,rfl,rfl,fun _ _=>rfl,fun l=>by simp[mD,ny]⟩
theorem aiG{A:af}{d bytes:Nat}{z:I}{rest:List aB}{n:Nat}(h1:n*bytes≤281474976710656)(h2:n≤maxLen):tW A d bytes z rest (.int .i64 n)=az rest ((A.aK d (.box (.agg (List.replicate n z)))).put d (.view d [] 1 0 n)):=by
 simp only[tW,Int.toNat_natCast]
 rw[if_pos ⟨Int.natCast_nonneg n,h1,h2⟩]
section
variable {α:Type} [Enc α] [DecidableEq α] {ty:cM}
theorem wA(aw:∀ x y:α,cu ty (enc x) (enc y)=some (decide (x=y)))(k:α):∀ (ks:List α) (i:Nat),fc ty (enc k) (ks.map enc) i=some ((ks.findIdx? fun x=>decide (k=x)).map (· + i))
 | [],i=>rfl
 |x::ks,i=>by
  simp only[List.map_cons,fc,aw,List.findIdx?_cons]
  by_cases h:k=x
  ·simp[h]
  ·simp only[h,decide_false,Bool.false_eq_true,if_false]
   rw[wA aw k ks (i+1)]
   cases ks.findIdx? fun x=>decide (k=x) with
   |none=>rfl
   |some j=>simp;omega
theorem x9(aw:∀ x y:α,cu ty (enc x) (enc y)=some (decide (x=y)))(z:I)(k:α)(ks:List α)(vs:List I) :
  gC ty z (enc k) (ks.map enc) vs=match ks.findIdx? fun x=>decide (k=x) with
   |some i=>(vs[i]?).map fun v=>(v,true)
   |none=>some (z,false):=by
 simp only[gC,aw,Option.isSome_some,if_true,wA aw]
 cases ks.findIdx? fun x=>decide (k=x) <;>rfl
theorem K7(aw:∀ x y:α,cu ty (enc x) (enc y)=some (decide (x=y)))(k:α)(v:I)(hv:v.cj=true)(ks:List α)(vs:List I) :
  gp ty (enc k) v (ks.map enc) vs=match ks.findIdx? fun x=>decide (k=x) with
   |some i=>some (ks.map enc,vs.set i v)
   |none=>some ((ks++[k]).map enc,vs++[v]):=by
 simp only[gp,aw,Option.isSome_some,hv,KA (dV k),and_self,if_true,wA aw]
 cases ks.findIdx? fun x=>decide (k=x) with
 |none=>simp
 |some i=>rfl
omit [Enc α] in
theorem DX{k:α}{ks:List α} : (ks.findIdx? fun x=>decide (k=x)).isSome=decide (k∈ks):=by
 induction ks with
 |nil=>rfl
 |cons x ks ih =>
  simp only[List.findIdx?_cons,List.mem_cons]
  by_cases h:k=x
  ·simp[h]
  ·simp only[h,decide_false,Bool.false_eq_true,if_false,Option.isSome_map,ih,false_or]
theorem aik(aw:∀ x y:α,cu ty (enc x) (enc y)=some (decide (x=y)))(k:α)(ks:List α):gC ty (.bool false) (enc k) (ks.map enc) (List.replicate ks.length (.bool true))=some (.bool (decide (k∈ks)),decide (k∈ks)):=by
 rw[x9 aw,←DX]
 cases h:ks.findIdx? fun x=>decide (k=x) with
 |none=>rfl
 |some i =>
  have:=(List.findIdx?_eq_some_iff_getElem.1 h).1
  simp[this]
def nj{α:Type}[DecidableEq α](ks:List α)(k:α):List α:=if k∈ks then ks else ks++[k]
omit [Enc α] in
theorem aiA{ks:List α}{k x:α} : x∈nj ks k↔x=k∨x∈ks:=by
 unfold nj
 split
 ·rename_i h
  exact ⟨.inr,fun h2=>h2.elim (fun e=>e▸h) id⟩
 ·simp[or_comm]
theorem aiN(aw:∀ x y:α,cu ty (enc x) (enc y)=some (decide (x=y)))(k:α)(ks:List α):gp ty (enc k) (.bool true) (ks.map enc) (List.replicate ks.length (.bool true))=some ((nj ks k).map enc,List.replicate (nj ks k).length (.bool true)):=by
 rw[K7 aw k _ rfl]
 have hm:=DX (k:=k) (ks:=ks)
 cases h:ks.findIdx? fun x=>decide (k=x) with
 |none =>
  rw[h] at hm
  have:k∉ks:=by simpa using hm.symm
  simp only[nj,if_neg this]
  congr 2
  rw[List.length_append,List.length_singleton,List.replicate_succ']
 |some i =>
  rw[h] at hm
  have:k∈ks:=by simpa using hm.symm
  simp only[nj,if_pos this]
  congr 2
  have:=(List.findIdx?_eq_some_iff_getElem.1 h).1
  exact List.ext_getElem (by simp) fun j h1 h2=>by
   simp only[List.getElem_set,List.getElem_replicate];split <;>rfl
end
section
variable {α:Type} [Enc α]
theorem vv{xs:List α}{i:Nat}(d:α)(h:i<xs.length):fB i [] (some (xs.map enc))=some (enc (xs.getD i d)):=by
 simp[fB,px,h,I.at,List.getD_eq_getElem?_getD]
theorem OQ{A:af}{n i:Nat}{xs:List α}(v u:α){rest:List aB}(hA:Enc.gn α=false)(h:i<xs.length):dQ A none n [i] (.agg (xs.map enc)) (enc v) rest (some (enc u))=az rest (A.aK n (.box (.agg ((xs.set i v).map enc)))):=by
 rw[ev (dq v) (by rw[mD,hA];rfl) ((eQ v).trans (eQ u).symm)]
 have h2:(xs.map (enc (α:=α)))[i]?=some (enc (xs[i])):=by simp[h]
 simp only[I.dz,h2,List.map_set]
end
theorem alG{A:af}{n i:Nat}{xs:List Bool}(h:i<xs.length)(v u:Bool)(rest:List aB):dQ A none n [i] (.agg (xs.map enc)) (.bool v) rest (some (.bool u))=az rest (A.aK n (.box (.agg ((xs.set i v).map enc)))):=OQ v u rfl h
theorem n9{A:af}{n i:Nat}{xs:List Int}(h:i<xs.length)(v u:Int)(rest:List aB):dQ A none n [i] (.agg (xs.map enc)) (.int .i64 v) rest (some (.int .i64 u))=az rest (A.aK n (.box (.agg ((xs.set i v).map enc)))):=OQ v u rfl h
theorem AK{xs:List Bool}{i:Nat}(h:i<xs.length):fB i [] (some (xs.map enc))=some (.bool (xs.getD i false)):=vv false h
theorem gZ{xs:List Int}{i:Nat}(h:i<xs.length):fB i [] (some (xs.map enc))=some (.int .i64 (xs.getD i 0)):=vv 0 h
theorem xY{m sz lo l i:Nat}{fs:List I}(h:i<l):lW m [] sz lo l sz (i:Int) (some fs)=some (.ptr m [lo+i]):=by rw[xX h];rfl
theorem Zw{α:Type}[Enc α]{A:af}{m n sz k:Nat}{xs:List α}(ho:A.o n=some (.box (.agg (xs.map enc))))(hs:Enc.sz α=sz)(hk:k=xs.length):dL A (m+1) (.view n [] sz 0 k)=some (enc xs):=by
 subst hk hs
 have h1:cC A (.ptr n [])=some (.agg (xs.map enc)):=by simp only[cC,ho];rfl
 simp only[dL,I.bB,Bool.false_eq_true,if_false,h1]
 have h2:((xs.map (enc (α:=α))).drop 0).take xs.length=xs.map enc:=by rw[List.drop_zero,List.take_of_length_le (by simp)]
 rw[h2,if_pos (kh xs),gA]
theorem iH:(∀ {α:Type} [Enc α] (x:α),(enc x).bB=true)∧(∀ n p z lo k,(I.view n p z lo k).bB=false)∧(∀ n,(I.mref n).bB=false)∧(∀ n p,(I.ptr n p).bB=false)∧(∀ n k,(I.own n k).bB=false) :=
 ⟨@dV,fun _ _ _ _ _=>rfl,fun _=>rfl,fun _ _=>rfl,fun _ _=>rfl⟩
end Go.Abs
namespace Go.Abs
open Go Go.RowKit
open Enc (enc)
theorem aD.QR{A:af}{d n T z:Nat}(hd:A.t d=.nils z)(hn:A.o n=none)(hlt:n<1000000):aD A ((A.aK n (.cV T [])).put d (.own n 0)):=by
 rintro c a w ⟨D,E,h⟩
 have aw:E n=none:=by have:=h.bS n;rw[hn] at this;exact this
 have hl:dS w D E w D (fun m=>if m=n then some (.rw none 0) else E m):=by
  have eB:∀ {m:Nat} {e:bU},E m=some e→(if m=n then some (.rw none 0) else E m)=some e:=fun {m e} he=>by
   have:m≠n:=fun e=>by rw[e,aw] at he;cases he
   rw[if_neg this];exact he
  refine ⟨fun _ _ h=>h,fun _ _ _ _ h=>h,fun m b aP he=>eB he,fun m aE l he =>?_,fun m b he=>eB he,fun m b he=>eB he,fun _ _ _ _ h=>h⟩
  ·have:m≠n:=fun e=>by rw[e,aw] at he;cases he
   exact ⟨aE,l,by simp only[if_neg this];exact he,Nat.le_refl _,fun _=>rfl⟩
 refine ⟨D,fun m=>if m=n then some (.rw none 0) else E m,h.sz,h.eV,fun t =>?_,h.dZ,h.c6,h.dg,fun m =>?_,fun m m' e e' b h1 h2 h3 h4 =>?_,fun m e hm =>?_,h.ff,h.cL,h.fk,h.fL⟩
 ·simp only[af.put,af.aK]
  by_cases ht:t=d
  ·subst ht
   simp only[if_true]
   have hv:=h.ew t
   rw[hd] at hv
   obtain ⟨cs,q1,q2⟩:=hv
   simp only[ah] at q2
   subst q2
   refine ⟨[.slice none 0 0],by simpa[bK,I.isAgg] using q1,?_⟩
   simp only[ah,if_true]
   exact ⟨none,0,rfl,Nat.le_refl _,⟨_,_,_,rfl⟩,fun _=>trivial⟩
  ·simp only[if_neg ht]
   exact aW.bL hl (h.ew t)
 ·simp only[af.put,af.aK]
  by_cases hm:m=n
  ·subst hm
   simp only[if_true,c9]
   exact ⟨none,by simp,by simp,trivial⟩
  ·simp only[if_neg hm]
   exact (h.bS m).bL hl (by simp only[if_neg hm]) fun _ _ _ _=>⟨rfl,fun _ ho=>ho⟩
 ·by_cases hm:m=n <;>by_cases hm':m'=n
  ·rw[hm,hm']
  ·simp only[if_pos hm,Option.some.injEq] at h1;subst h1;simp[bU.aE] at h3
  ·simp only[if_pos hm',Option.some.injEq] at h2;subst h2;simp[bU.aE] at h4
  ·simp only[if_neg hm] at h1;simp only[if_neg hm'] at h2;exact h.cU m m' e e' b h1 h2 h3 h4
 ·have hmn:m≠n:=fun e=>by rw[e,h.kl (.inr hlt)] at hm;cases hm
  simp only[if_neg hmn]
  exact h.eb m e hm
theorem aD.Az{ts:List (Nat×I)}{os:List (Nat×ai)}(d n T z:Nat)(hd:cn ts d=.nils z)(hn:al os n=none){B:af}(h:aD (av ((d,.own n 0)::ts) ((n,.cV T [])::os)) B)(hlt:n<1000000:=by decide):aD (av ts os) B :=
 ((aD.QR (A:=av ts os) (T:=T) hd hn hlt).trans (by rw[oK,tQ];exact aD.refl _)).trans h
theorem aD.QS{A:af}{m n T z:Nat}{p:List Nat}{b:I}(hm:A.o m=some (.box b))(hp:b.at p=some (.nils z))(hn:A.o n=none)(hlt:n<1000000):aD A ((A.aK n (.cV T [])).aK m (.box (b.dz p (.own n 0)))):=by
 rintro c a w ⟨D,E,h⟩
 have aw:E n=none:=by have:=h.bS n;rw[hn] at this;exact this
 have hmn:m≠n:=fun e=>by rw[e,hn] at hm;cases hm
 have hl:dS w D E w D (fun m=>if m=n then some (.rw none 0) else E m):=by
  have eB:∀ {m:Nat} {e:bU},E m=some e→(if m=n then some (.rw none 0) else E m)=some e:=fun {m e} he=>by
   have:m≠n:=fun e=>by rw[e,aw] at he;cases he
   rw[if_neg this];exact he
  refine ⟨fun _ _ h=>h,fun _ _ _ _ h=>h,fun m b aP he=>eB he,fun m aE l he =>?_,fun m b he=>eB he,fun m b he=>eB he,fun _ _ _ _ h=>h⟩
  ·have:m≠n:=fun e=>by rw[e,aw] at he;cases he
   exact ⟨aE,l,by simp only[if_neg this];exact he,Nat.le_refl _,fun _=>rfl⟩
 refine ⟨D,fun m=>if m=n then some (.rw none 0) else E m,h.sz,h.eV,fun t=>aW.bL hl (h.ew t),h.dZ,h.c6,h.dg,fun k =>?_,fun m m' e e' b h1 h2 h3 h4 =>?_,fun m e hm =>?_,h.ff,h.cL,h.fk,h.fL⟩
 ·simp only[af.aK]
  by_cases hk:k=m
  ·subst hk
   have ho:=h.bS k
   rw[hm] at ho
   obtain ⟨b',cs,T',h1,h2,h3,h4,h5⟩:=ho
   obtain ⟨q1,q2⟩:=NY (y:=.own n 0) (ah.bL hl _ _ h4) hp (fun ds hd=>by
    simp only[ah] at hd
    subst hd
    simp only[ah,if_true]
    exact ⟨none,0,rfl,Nat.le_refl _,⟨_,_,_,rfl⟩,fun _=>trivial⟩) rfl
   simp only[if_true,c9]
   exact ⟨b',cs,T',by rw[q2];simp only[if_neg hmn];exact h1,h2,h3,q1,h5⟩
  ·simp only[if_neg hk]
   by_cases hkn:k=n
   ·subst hkn
    simp only[if_true,c9]
    exact ⟨none,by simp,by simp,trivial⟩
   ·simp only[if_neg hkn]
    exact (h.bS k).bL hl (by simp only[if_neg hkn]) fun _ _ _ _=>⟨rfl,fun _ ho=>ho⟩
 ·by_cases hm:m=n <;>by_cases hm':m'=n
  ·rw[hm,hm']
  ·simp only[if_pos hm,Option.some.injEq] at h1;subst h1;simp[bU.aE] at h3
  ·simp only[if_pos hm',Option.some.injEq] at h2;subst h2;simp[bU.aE] at h4
  ·simp only[if_neg hm] at h1;simp only[if_neg hm'] at h2;exact h.cU m m' e e' b h1 h2 h3 h4
 ·have hmn:m≠n:=fun e=>by rw[e,h.kl (.inr hlt)] at hm;cases hm
  simp only[if_neg hmn]
  exact h.eb m e hm
theorem aD.QT{ts:List (Nat×I)}{os:List (Nat×ai)}(m n T z:Nat)(p:List Nat)(b:I)(hm:al os m=some (.box b))(hp:b.at p=some (.nils z))(hn:al os n=none){B:af}(h:aD (av ts ((m,.box (b.dz p (.own n 0)))::(n,.cV T [])::os)) B)(hlt:n<1000000:=by decide):aD (av ts os) B :=
 ((aD.QS (A:=av ts os) (T:=T) hm hp hn hlt).trans (by rw[oK,oK];exact aD.refl _)).trans h
theorem vn{A:af}{d:Option Nat}{e bytes n l:Nat}{xs:List Int}{y:Int}{rest:List aB}(hl:l=xs.length)(h1:xs.length+1≤maxLen)(h2:(xs.length+1)*bytes≤140737488355328) :
  pq A d e 1 bytes (.int .i64 0) n l e xs rest (enc [y])=az rest ((A.aK n (.cV e (xs++[y]))).aJ d (.own n (xs.length+1))):=by
 show pq A d e 1 bytes (.int .i64 0) n l e xs rest (.slice 1 [.int .i64 y])=_
 simp only[pq]
 rw[if_pos ⟨hl,rfl,rfl,rfl,rfl,by simp,h1,h2⟩]
 rfl
def fN(n k:Nat):I→I
 | .own n' k'=>if n'=n∧k'=k then .view n [] 1 0 k else .own n' k'
 |v=>v
def fM(n:Nat):I→I
 | .own n' k'=>if n'=n∧k'=0 then .nils 1 else .own n' k'
 |v=>v
def iS(f:I→I):ai→ai
 | .box v=>.box (f v)
 |y=>y
def nS(n k:Nat)(v:I):Prop:=v=.own n k∨v.only (fun j=>j != n)=true
def ajX(n k:Nat)(y:ai):Prop:=y=.box (.own n k)∨y.only (fun j=>j != n)=true
theorem r6{n k:Nat}{v:I}(h:v.only (fun j=>j != n)=true):fN n k v=v:=by
 cases v <;>try rfl
 rename_i n' k'
 simp only[I.only,bne_iff_ne,ne_eq] at h
 simp only[fN,h,false_and,if_false]
theorem zJ{n:Nat}{v:I}(h:v.only (fun j=>j != n)=true):fM n v=v:=by
 cases v <;>try rfl
 rename_i n' k'
 simp only[I.only,bne_iff_ne,ne_eq] at h
 simp only[fM,h,false_and,if_false]
theorem pY(f:I→I)(hf:f .df=.df)(ts:List (Nat×I))(t:Nat):cn (ts.map fun q=>(q.1,f q.2)) t=f (cn ts t):=by
 induction ts with
 |nil=>exact hf.symm
 |cons q ts ih =>
  obtain ⟨k,v⟩:=q
  simp only[List.map_cons,cn]
  split
  ·rfl
  ·exact ih
theorem tJ(f:ai→ai)(os:List (Nat×ai))(t:Nat):al (os.map fun q=>(q.1,f q.2)) t=(al os t).map f:=by
 induction os with
 |nil=>rfl
 |cons q os ih =>
  obtain ⟨k,v⟩:=q
  simp only[List.map_cons,al]
  split
  ·rfl
  ·exact ih
theorem c9.dy{M:Nat→Prop}{w:World}{D:aN}{E E':aZ}{p:Nat→Bool}(hp:∀ n,p n=true→E' n=E n){m:Nat}(aw:E' m=E m){y:ai}(hon:y.only p=true)(ho:c9 M w D E m (some y)):c9 M w D E' m (some y):=by
 cases y with
 |box x =>
  obtain ⟨b,cs,T,k1,k2,k3,k4,k5⟩:=ho
  exact ⟨b,cs,T,aw.trans k1,k2,k3,ah.dy hp _ _ (by simpa[ai.only] using hon) k4,k5⟩
 |bT T sz es =>
  obtain ⟨aE,k1,k2,k3⟩:=ho
  refine ⟨aE,aw.trans k1,k2,?_⟩
  cases aE with
  |none=>exact k3
  |some bc =>
   obtain ⟨b,cap⟩:=bc
   obtain ⟨cs,pre,rest,q1,q2,q3,q4,q5⟩:=k3
   exact ⟨cs,pre,rest,q1,q2,q3,aG.dy hp _ _ (by simpa[ai.only] using hon) q4,q5⟩
 |cV T xs =>
  obtain ⟨aE,k1,k2,k3⟩:=ho
  exact ⟨aE,aw.trans k1,k2,k3⟩
 |dO x =>
  obtain ⟨b,k1,k2⟩:=ho
  exact ⟨b,aw.trans k1,k2⟩
 |cz ks vs =>
  obtain ⟨b,es,ck,k1,k2,k3,k4,k5,k6,k7⟩:=ho
  simp only[ai.only,Bool.and_eq_true] at hon
  exact ⟨b,es,ck,aw.trans k1,k2,k3,k4,aF.dy hp _ _ hon.1 k5,aF.dy hp _ _ hon.2 k6,k7⟩
 |it ks vs left cur =>
  obtain ⟨r,b,es,ck,si,se,la,k1,k2,k3,k4,k5,k6,k7⟩:=ho
  simp only[ai.only,Bool.and_eq_true] at hon
  exact ⟨r,b,es,ck,si,se,la,aw.trans k1,k2,k3,k4,aF.dy hp _ _ hon.1 k5,aF.dy hp _ _ hon.2 k6,k7⟩
theorem rZ(xs:List Int):(I.agg (xs.map enc)).aP=.ej (List.replicate xs.length .one):=by
 show cO.ej (I.cK _)=_
 congr 1
 induction xs with
 |nil=>rfl
 |cons x xs ih=>simp only[List.map_cons,I.cK,ih,List.length_cons,List.replicate_succ];rfl
theorem rQ{w:World}{D:aN}{E:aZ} : ∀ {xs:List Int},(∀ x∈xs,IntKind.i64.min≤x∧x≤IntKind.i64.max)→aG w D E (xs.map enc) (xs.map (Value.int .i64))
 | [],_=>rfl
 |x::xs,h=>⟨[.int .i64 x],xs.map (Value.int .i64),rfl,⟨rfl,h x (by simp)⟩,rQ fun y hy=>h y (by simp[hy])⟩
theorem aD.O4{ts:List (Nat×I)}{os:List (Nat×ai)}{n T:Nat}{B:af}(hn:al os n=some (.cV T []))
  (h:aD (av (ts.map fun q=>(q.1,fM n q.2)) (os.map fun q=>(q.1,iS (fM n) q.2))) B):aD (av ts os) B:=by
 refine aD.trans ?_ h
 rintro c a w ⟨D,E,hs⟩
 obtain ⟨aE,aw,-,hblk⟩:=hs.r7 (n:=n) (T:=T) (xs:=[]) hn
 have hnone:aE=none:=by
  cases aE with
  |none=>rfl
  |some bc=>obtain ⟨b,cap⟩:=bc;obtain ⟨_,_,_,_,_,h,_⟩:=hblk;exact absurd rfl h
 subst hnone
 have conv:∀ (v:I) (cs:List Value),ah w D E v cs→ah w D E (fM n v) cs:=fun v cs hr=>by
  cases v <;>try exact hr
  rename_i n' k'
  simp only[fM]
  split
  ·rename_i hh
   obtain ⟨rfl,rfl⟩:=hh
   obtain ⟨blk',l,q3,q4,q5,q6⟩:=hr
   rw[aw] at q3
   simp only[Option.some.injEq,bU.rw.injEq,List.length_nil] at q3
   obtain ⟨rfl,rfl⟩:=q3
   exact q6 rfl
  ·exact hr
 refine ⟨D,E,hs.sz,hs.eV,fun t =>?_,hs.dZ,hs.c6,hs.dg,fun m =>?_,hs.cU,hs.eb,hs.ff,hs.cL,hs.fk,hs.fL⟩
 ·show aW w D E (cn _ t) _
  rw[pY _ rfl]
  have:=hs.ew t
  simp only[av] at this
  revert this
  generalize cn ts t=v
  intro hv
  cases v <;>try exact hv
  rename_i n' k'
  obtain ⟨cs,q1,q2⟩:=hv
  have:=conv _ _ q2
  revert this
  simp only[fM]
  split
  ·intro this;exact ⟨cs,q1,this⟩
  ·intro this;exact ⟨cs,q1,this⟩
 ·show c9 _ w D E m (al _ m)
  rw[tJ]
  have:=hs.bS m
  simp only[av] at this
  revert this
  cases al os m with
  |none=>exact id
  |some y =>
   cases y <;>try exact id
   rename_i x
   rintro ⟨b,cs,T,k1,k2,k3,k4,k5⟩
   refine ⟨b,cs,T,?_,k2,k3,conv _ _ k4,k5⟩
   rw[k1]
   have:(fM n x).aP=x.aP:=by
    cases x <;>try rfl
    simp only[fM]
    split <;>rfl
   rw[this]
theorem ab.O3{c:cQ}{x:aM}{Q:Exit→af→Prop}{ts:List (Nat×I)}{os:List (Nat×ai)}{n T:Nat}{xs:List Int}(hn:al os n=some (.cV T xs))(hne:xs≠[])(hlt:n<1000000)
  (ht:∀ t,nS n xs.length (cn ts t)) (ho:∀ m y,al os m=some y→m≠n→ajX n xs.length y)
  (h:∀ q:Nat,ab c x Q (av (ts.map fun p=>(p.1,fN n xs.length p.2)) ((n,.box (.agg ((xs++List.replicate q 0).map enc)))::os.map fun p=>(p.1,iS (fN n xs.length) p.2)))):ab c x Q (av ts os):=by
 rintro code hc a w ⟨D,E,hs⟩
 obtain ⟨aE,aw,hr,hblk⟩:=hs.r7 (n:=n) hn
 cases aE with
 |none=>exact absurd hblk hne
 |some bc =>
 obtain ⟨b,cap⟩:=bc
 obtain ⟨cs,q,hM,hb,hcs,-,hcap,hmax,hD⟩:=hblk
 have hp:∀ j,(fun j=>j != n) j=true→(fun j=>if j=n then some (bU.aC b (.ej (List.replicate (xs.length+q) .one))) else E j) j=E j:=fun j hj=>by
  have:j≠n:=by simpa using hj
  simp only[if_neg this]
 have conv:∀ cs0,ah w D E (.own n xs.length) cs0→ah w D (fun j=>if j=n then some (bU.aC b (.ej (List.replicate (xs.length+q) .one))) else E j) (.view n [] 1 0 xs.length) cs0:=fun cs0 hr=>by
  obtain ⟨blk',l,q3,q4,q5,q6⟩:=hr
  rw[aw] at q3
  simp only[Option.some.injEq,bU.rw.injEq] at q3
  obtain ⟨rfl,rfl⟩:=q3
  have:=q6 rfl
  refine ⟨b,_,0,List.replicate (xs.length+q) .one,if_pos rfl,rfl,rfl,?_,by rw[List.length_replicate];omega,by rw[List.length_replicate];omega,fun s hs =>?_⟩
  ·rw[this,List.length_replicate]
   simp only[Nat.zero_mul,Nat.add_zero,Nat.sub_zero,hcap]
  ·rw[List.eq_of_mem_replicate hs];rfl
 refine h q code hc a w ⟨D,fun j=>if j=n then some (.aC b (.ej (List.replicate (xs.length+q) .one))) else E j,hs.sz,hs.eV,fun t =>?_,hs.dZ,hs.c6,hs.dg,fun m =>?_,fun m m' e e' b1 h1 h2 h3 h4 =>?_,fun m e hm =>?_,hs.ff,hs.cL,hs.fk,hs.fL⟩
 ·show aW w D _ (cn _ t) _
  rw[pY _ rfl]
  have hv:=hs.ew t
  simp only[av] at hv
  rcases ht t with h1 | h1
  ·rw[h1] at hv ⊢
   simp only[fN,and_self,if_true]
   obtain ⟨cs0,q1,q2⟩:=hv
   exact ⟨cs0,q1,conv _ q2⟩
  ·rw[r6 h1]
   exact aW.dy hp h1 hv
 ·show c9 _ w D _ m (al _ m)
  simp only[al]
  by_cases hm:m=n
  ·subst hm
   simp only[if_true]
   refine ⟨b,cs,T,?_,hM,hb,?_,hD⟩
   ·simp only[if_true]
    rw[rZ,List.length_append,List.length_replicate]
   ·show aG w D _ _ _
    rw[hcs]
    refine rQ fun y hy =>?_
    rcases List.mem_append.1 hy with hy | hy
    ·exact hr y hy
    ·rw[List.eq_of_mem_replicate hy];decide
  ·simp only[if_neg hm]
   rw[tJ]
   have hob:=hs.bS m
   simp only[av] at hob
   cases hy:al os m with
   |none=>rw[hy] at hob;simp only[c9,Option.map_none] at hob ⊢;rw[if_neg hm];exact hob
   |some y =>
    rw[hy] at hob
    rcases ho m y hy hm with rfl | h1
    ·obtain ⟨b1,cs1,T1,k1,k2,k3,k4,k5⟩:=hob
     refine ⟨b1,cs1,T1,?_,k2,k3,?_,k5⟩
     ·simp only[if_neg hm]
      rw[k1]
      simp only[fN,and_self,if_true];rfl
     ·simp only[fN,and_self,if_true]
      exact conv _ k4
    ·have e:iS (fN n xs.length) y=y:=by
      cases y <;>try rfl
      simp only[ai.only] at h1
      simp only[iS,r6 h1]
     simp only[Option.map_some,e]
     exact hob.dy hp (if_neg hm) h1
 ·have cut:∀ m e,(if m=n then some (bU.aC b (.ej (List.replicate (xs.length+q) .one))) else E m)=some e→∃ e2,E m=some e2∧e2.aE=e.aE:=fun m e he=>by
   by_cases hm:m=n
   ·subst hm
    rw[if_pos rfl] at he
    cases he
    exact ⟨_,aw,rfl⟩
   ·rw[if_neg hm] at he
    exact ⟨e,he,rfl⟩
  obtain ⟨e2,k1,k2⟩:=cut m e h1
  obtain ⟨e3,k3,k4⟩:=cut m' e' h2
  exact hs.cU m m' e2 e3 b1 k1 k3 (k2.trans h3) (k4.trans h4)
 ·have hmn:m≠n:=fun e=>by rw[e,hs.kl (.inr hlt)] at hm;cases hm
  simp only[if_neg hmn]
  exact hs.eb m e hm
def xZ:Option Nat→Code
 |none=>.ret
 |some id=>.exit id
def DJ:Option Nat→Exit
 |none=>.ret
 |some id=>.exit id
def qA(o:Obj)(A:af)(os:List (Nat×ai)):Prop:=∀ n x,al (dI o os) n=some x→A.o n=some x∧x.only (au (dI o os))=true∧x.eS=true
def ak6(o:Obj)(In:List (Nat×ai)→Prop)(Ix:Option Nat→List (Nat×ai)→Prop):Exit→af→Prop
 | .normal,A=>∃ os,qA o A os∧In os
 | .ret,A=>∃ os,qA o A os∧Ix none os
 | .exit id,A=>∃ os,qA o A os∧Ix (some id) os
 |_,_=>False
def QE(P:Program)(nn:Nat)(x y:aM)(ps:List Nat)(tsR:List (Nat×I))(N:Nat)(item:Nat→List I)(aj:Nat→List (Nat×ai)→Prop)(Ix:Option Nat→List (Nat×ai)→Prop):Prop :=
 ∀ k osb,k<N→aj k osb→∀ (w:World) (D:aN) (E:aZ) (l:Nat) (o1 o2:Obj),
  ab ⟨P,w,D,nn,dw E,E,iN,some l⟩ x (aq (fun B=>B.o 1999999=some (.dO o1)∧ab ⟨P,w,D,nn,dw E,E,iN,some l⟩ y (ak6 o2 (aj (k+1)) Ix) (B.aK 1999999 (.dO o2))) (fun _ _=>False)) (av (rP ps (item k) tsR) (dI o1 osb))
section
variable {c:cQ} {Q:Exit→af→Prop}
theorem ahy{o:Obj}{A:af}{os:List (Nat×ai)}(h:qA o A os)(o':Obj):∀ n x,al (dI o' os) n=some x→(A.aK 1999999 (.dO o')).o n=some x∧x.only (au (dI o' os))=true∧x.eS=true:=fun n x hx=>by
 have e:au (dI o' os)=au (dI o os):=by funext m;rw[lV,lV]
 rw[e]
 by_cases hn:n=1999999
 ·subst hn
  rw[pX,if_pos rfl,Option.some.injEq] at hx
  subst hx
  exact ⟨by simp[af.aK],rfl,rfl⟩
 ·rw[pX,if_neg hn] at hx
  obtain ⟨h1,h2⟩:=h n x (by rw[pX,if_neg hn];exact hx)
  exact ⟨by simp only[af.aK,if_neg hn];exact h1,h2⟩
theorem ab.lh{f:aH}{ps:List Nat}{x y:aM}{ts tsR:List (Nat×I)}{os0 osb0:List (Nat×ai)}{ρ:List (Nat×Nat)}{g:FuncId}{caps:List I}{N:Nat}{item:Nat→List I}
  (aj:Nat→List (Nat×ai)→Prop) (Ix:Option Nat→List (Nat×ai)→Prop) (hr:c.mY=none) (hn6:c.n≤1000000)
  (hf:ae (av ts os0) f=.func g caps) (hcl:I.bX caps=true) (hcb:hT c.P g=true) (hit:vi c.P g caps N item) (hlen:∀ k,(item k).length=ps.length)
  (hfree:al os0 999999=none) (h19:au osb0 1999999=false) (hρ:bD ρ 1999999=999999)
  (hgv:∀ o,fP ρ (dI o osb0) ((999999,.dO o)::os0)) (hts:nd ρ (au osb0) ts tsR)
  (hI:∀ k os,aj k os→fA osb0 os) (hIx:∀ e os,Ix e os→fA osb0 os) (h0:aj 0 osb0)
  (hround:QE c.P c.n x y ps tsR N item aj Ix)
  (hdone:∀ os,aj N os→Q .normal (av ts (dJ ρ os++os0))) (hexit:∀ e os,Ix e os→Q (DJ e) (av ts (dJ ρ os++os0))) :
  ab c (.lh f ps x y) Q (av ts os0):=by
 intro code hc a w hs
 cases code <;>simp only[fq] at hc <;>try (first | (cases hc;done) | ((repeat' split at hc) <;>cases hc;done))
 rename_i cf cps cx cy
 split at hc
 case h_2=>cases hc
 rename_i f' x' y' hcf hcx hcy
 split at hc
 case isFalse=>cases hc
 rename_i hpn
 simp only[Option.some.injEq,aM.lh.injEq] at hc
 obtain ⟨rfl,rfl,rfl,rfl⟩:=hc
 obtain ⟨D,E,hs⟩:=hs
 have hF:c.bt=Fence.wide:=by unfold cQ.bt;rw[hr]
 have hE0:c.dK 999999=none:=hs.kl (.inr (by decide))
 have hval:∃ vs:List Value,a.eval cf=.func (.func g) #[] vs.toArray∧aF w D E caps vs:=by
  have hv:=cg hs hcf
  rw[hf] at hv
  obtain ⟨cs,q1,q2⟩:=hv
  simp only[ah] at q2
  obtain ⟨vs,q3,q4⟩:=q2
  exact ⟨vs,by simpa[bK,I.isAgg,q3] using q1.symm,q4⟩
 obtain ⟨vs,hval,hvs⟩:=hval
 rw[hF]
 refine wpIn_rangeFunc fun fn hfn =>?_
 obtain ⟨rec,hrec⟩:∃ rec:LoopState→Option Code→Loop,rec=fun bu pe => { state:=bu,pending:=pe,fn,tmps:=a.tmps,params:=cps,assign:=cx,body:=cy,defers:=w.heap.size } :=⟨_,rfl⟩
 obtain ⟨E1,hs1,hE1,hup⟩:=hs.enter hfree hE0 (o:=.loop (rec .ready none)) rfl
 obtain ⟨W1,hW1⟩:∃ W1,(w.alloc (.deferred (some []))).alloc (.loop (rec .ready none))=W1:=⟨_,rfl⟩
 rw[hW1] at hs1 hup
 obtain ⟨l,hl⟩:∃ l,l=w.heap.size+1:=⟨_,rfl⟩
 rw[←hl] at hE1
 obtain ⟨yv,hyv⟩:∃ yv:Value,yv=.func (.yield l) #[] #[]:=⟨_,rfl⟩
 obtain ⟨a1,ha1⟩:∃ a1:Act,a1 = { a with defers := { target:=.collected w.heap.size,args := #[] } :: a.defers } :=⟨_,rfl⟩
 rw[←ha1] at hs1
 refine ⟨l,[{ target:=.collected w.heap.size,args := #[] }],W1,{ target:=.fn (.func g) vs.toArray,args := #[yv] },W1,g,#[yv]++vs.toArray,W1,?_,?_,?_,?_,fun _=>by decide,?_⟩
 ·rw[←hW1,hrec,hl]
  exact run_enterLoop_outer _ _ _ _ _
 ·simp only[resolve,hval,hyv]
  simp[go_sem]
 ·intro f' _;trivial
 ·simp only[invoke,zn hcb]
 ·-- the iterator's own bargain
  have hG0:=hI 0 osb0 h0
  obtain ⟨I',hI'⟩:∃ I':Nat→List (Nat×ai)→Prop,I'=fun k os=>∃ osb,os=dI (.loop (rec .ready none)) osb∧aj k osb:=⟨_,rfl⟩
  obtain ⟨Ix',hIx'⟩:∃ Ix':List (Nat×ai)→Prop,Ix'=fun os=>∃ e osb,os=dI (.loop (rec .done (some (xZ e)))) osb∧Ix e osb:=⟨_,rfl⟩
  obtain ⟨os1,hos1⟩:∃ os1,os1=dI (.loop (rec .ready none)) osb0:=⟨_,rfl⟩
  obtain ⟨Y,hY⟩:∃ Y:Value→List I→List (Nat×ai)→cR→Prop,Y=fun v args os post=>v=yv∧∃ k,args=item k∧k<N∧I' k os∧∀ r os2,(r=.bool true∧I' (k+1) os2)∨(r=.bool false∧Ix' os2)→post r os2:=⟨_,rfl⟩
  have km:∀ k os',I' k os'→fA os1 os':=fun k os' h=>by
   rw[hI'] at h;obtain ⟨osb,rfl,h⟩:=h
   rw[hos1];exact (hI k osb h).dI _ _
  have goodx:∀ os',Ix' os'→fA os1 os':=fun os' h=>by
   rw[hIx'] at h;obtain ⟨e,osb,rfl,h⟩:=h
   rw[hos1];exact (hIx e osb h).dI _ _
  have hctr:=hit Y yv I' Ix' os1 (by rw[hyv];rfl) (fun k os' post hk h1 h2=>by rw[hY];exact ⟨rfl,k,rfl,hk,h1,h2⟩) km goodx (by rw[hI'];exact ⟨osb0,hos1,h0⟩)
  have hgv1:fP ρ os1 ((999999,.dO (.loop (rec .ready none)))::os0):=by rw[hos1];exact hgv _
  obtain ⟨A0,hA0⟩:∃ A0:af,A0=av ts ((999999,.dO (.loop (rec .ready none)))::os0):=⟨_,rfl⟩
  have hand:qC (Calls c.P g) (fun w D E=>∀ n,pn ⟨c.P,w,D,n,dw E,E,Y,none⟩) (.raw yv::caps) os1 (fun r os'=>r=.tuple []∧(I' N os'∨Ix' os')):=fun w D E vs hy hlive hheld hv=>by
   refine (hctr.2 w D E vs hy hlive hheld hv).mono fun e w' ⟨v,he,D',E',r,os',q⟩=>⟨v,D',E',r,os',he,q⟩
  have hshare:=hs1.oZ
  obtain ⟨Dh,hDh⟩:∃ Dh,Dh=oU (av ts ((999999,.dO (.loop (rec .ready none)))::os0)) D E1:=⟨_,rfl⟩
  rw[←hDh] at hshare
  have hsh:=hshare.1
  obtain ⟨Eh,hEh⟩:∃ Eh,Eh=aw ρ os1 E1:=⟨_,rfl⟩
  have isrec:au os1 1999999=true:=by rw[hos1,lV];simp
  have hEl:Eh 1999999=some (.op l):=by rw[hEh];simp only[aw,isrec,if_true,hρ];exact hE1
  have EhIn:∀ n e,Eh n=some e→au os1 n=true:=fun n e h=>by
   rw[hEh] at h;simp only[aw] at h;split at h
   ·assumption
   ·cases h
  have hyok:∀ n,pn ⟨c.P,W1,Dh,n,dw Eh,Eh,Y,none⟩:=by
   intro n v' args os' post' hYv w2 D2 E2 vs2 hsince hlive hheld hrvs
   rw[hY] at hYv
   obtain ⟨rfl,k,rfl,hkN,hIk,hpost⟩:=hYv
   have hIk0:=hIk
   rw[hI'] at hIk
   obtain ⟨osb,rfl,hIk⟩:=hIk
   have gk:=km k _ hIk0
   have gkb:=hI k osb hIk
   have in2:∀ m,au os1 m=true→E2 m≠none:=fun m hm=>by
    rw[←gk.same m] at hm
    cases hx:al (dI (.loop (rec .ready none)) osb) m with
    |none=>simp[au,hx] at hm
    |some x=>have:=hheld.bS m;rw[hx] at this;exact ud this
   have same2:∀ m e,Eh m=some e→e.eS=true→E2 m=some e:=fun m e he hfx=>by
    rcases hsince.eb m e he with h | ⟨e',h,hle⟩
    ·exact absurd h (in2 m (EhIn m e he))
    ·rw[hle.eq hfx] at h;exact h
   have hEl2:E2 1999999=some (.op l):=same2 _ _ hEl rfl
   have hob:=hheld.bS 1999999
   rw[pX,if_pos rfl] at hob
   obtain ⟨b,j1,_,j3,_,_⟩:=hob
   rw[hEl2] at j1
   cases j1
   have hsz:vs2.toArray.size=cps.size:=by have:=zw hrvs;rw[hlen] at this;simpa using this
   have hyr:=run_yield (P:=c.P) (args:=vs2.toArray) j3 (by rw[hrec];exact hsz)
   rw[hrec] at hyr
   refine ⟨l,hyv,fn,_,cx,cy,hyr,roundIn_of_wpIn trivial ?_⟩
   clear hyr
   -- the round's own frame
   obtain ⟨cr,hcr⟩:∃ cr:cQ,cr=⟨c.P,w2,D2,c.n,dw E2,E2,iN,some l⟩:=⟨_,rfl⟩
   have hFr:cr.bt=Fence.wide.inRound l:=by rw[hcr];rfl
   have hlat:dS W1 Dh Eh w2 D2 E2:=by
    refine ⟨hsince.cL,hsince.fL.cell,fun m b aP he=>same2 m _ he rfl,fun m aE l he =>?_,fun m b he=>same2 m _ he rfl,fun m b he=>same2 m _ he rfl,hsince.fL.jC⟩
    rcases hsince.eb m _ he with h | ⟨e',h,hle⟩
    ·exact absurd h (in2 m (EhIn m _ he))
    ·rcases hle with rfl | ⟨_,_,blk',l',e,rfl,k1,k2⟩
     ·exact ⟨aE,l,h,Nat.le_refl _,fun _=>rfl⟩
     ·cases e;exact ⟨blk',l',h,k1,k2⟩
   have hslots:nd ρ (au os1) ts tsR:=by
    have:∀ tsR:List (Nat×I),nd ρ (au osb0) ts tsR→nd ρ (au os1) ts tsR:=by
     intro tsR
     induction tsR with
     |nil=>exact fun h=>h
     |cons q r ih =>
      intro h
      obtain ⟨h1,h2,h3⟩:=h
      exact ⟨h1,jg (fun n hn=>by rw[hos1,lV,hn];simp) _ h2,ih h3⟩
    exact this tsR hts
   have hsr:aT cr (av tsR (dI (.loop (rec .ready none)) osb)) { tmps:=a.tmps,defers:=[] } w2 D2 E2:=by
    rw[hcr]
    refine ⟨hs.sz,⟨[],rfl,.nil,fun _ h=>by simp at h⟩,fun t =>?_,fQ.refl _ _,fun _ _ h _=>h,hlive,fun m=>(hheld.bS m).mN fun e b he hb=>.inr ⟨m,e,he,hb⟩,hheld.cU,fun _ e h=>.inr ⟨e,h,.refl e⟩,fun m hm =>?_,fun _ _ h=>h,(fun _ _ _ _ h=>h.elim),.refl _ _⟩
    ·rcases OF hslots t with h | ⟨h1,h2⟩
     ·simp only[av];rw[h];simp[aW]
     ·have h3:=hsh.ew t
      rw[ha1] at h3
      simp only[av] at h3 ⊢
      rw[h1] at h3
      have h4:=(aW.aR (w:=W1) (D:=Dh) (p:=au os1) (ρ:=bD ρ) (E:=Eh) (E':=E1) (fun n hn=>by rw[hEh];simp only[aw,hn,if_true]) h2).1 h3
      exact aW.bL hlat h4
    ·have hmi:au os1 m=true:=by
      rw[←gk.same m]
      have:=hheld.bS m
      cases hx:al (dI (.loop (rec .ready none)) osb) m with
      |none=>rw[hx] at this;exact absurd this hm
      |some x=>simp[au,hx]
     have:=gk.oB m hmi
     exact ⟨Nat.le_trans hn6 this,this⟩
   have hsp:=aT.L3 cps.toList vs2 (item k) tsR _ hsr (fun p hp=>by rw[hcr];have:=List.all_eq_true.1 hpn p hp;simpa using this) hrvs (by have:=hsz;simpa using this.symm)
   have htm:(cps.zip vs2.toArray).foldl (fun t (q:Tmp×Value)=>t.setIfInBounds q.1 q.2) a.tmps=(cps.toList.zip vs2).foldl (fun t q=>t.setIfInBounds q.1 q.2) a.tmps:=by
    rw[←Array.foldl_toList];simp
   have hx:=hround k osb hkN hIk w2 D2 E2 l (.loop (rec .ready none)) (.loop { rec .ready none with state:=.busy })
   rw[←hcr] at hx
   have hx1:=hx cx (by rw[hcr];exact hcx) _ w2 ⟨D2,E2,hsp⟩
   rw[hFr] at hx1
   simp only[←htm] at hx1
   rw[hcr] at hx1
   refine wpIn_mono hx1 ?_
   rintro e ax wx ⟨B,hq,hsx⟩
   rw[←hcr] at hq hsx
   cases e <;>simp only[aq] at hq <;>try exact hq.elim
   simp only[Exit.then]
   obtain ⟨hB1,hB2⟩:=hq
   obtain ⟨Dx,Ex,hsx⟩:=hsx
   have hElx:Ex 1999999=some (.op l):=by
    have ho:=hsx.bS 1999999
    rw[hB1] at ho
    rcases hsx.D4 (n:=1999999) (by rw[hcr];exact hEl2) rfl with h | h
    ·exact absurd h (ud ho)
    ·exact h
   have hLx:wx.heap[l]?=some (.loop (rec .ready none)):=by
    have ho:=hsx.bS 1999999
    rw[hB1] at ho
    obtain ⟨b,k1,_,k3,_⟩:=ho
    rw[hElx] at k1;cases k1;exact k3
   refine ⟨_,run_beginRound hLx (by rw[hrec]),?_⟩
   have hsb:=hsx.zA (o':=.loop { rec .ready none with state:=.busy }) hB1 hElx rfl
   have hy1:=hB2 cy (by rw[hcr];exact hcy) _ _ ⟨Dx,Ex,hsb⟩
   rw[hFr] at hy1
   rw[hcr] at hy1
   refine wpIn_mono hy1 ?_
   rintro e a3 w3 ⟨A3,hq3,D3,E3,hs3⟩
   rw[←hcr] at hs3
   -- the end of the round
   have br:∀ (os:List (Nat×ai)) (jump:Option Code),qA (.loop { rec .ready none with state:=.busy }) A3 os→(post' (.bool jump.isNone) (dI (.loop (rec (if jump.isNone then .ready else .done) jump)) os)) →
     ∃ v w',(Instr.endRound l jump).run c.P w3=.ok v w'∧(fun e w'=>∃ v D' E' r os',e=Ending.returned v∧post' r os'∧aW w' D' E' r v∧ly (fun b=>w2.heap.size≤b∨dw E2 b) w' D' E' (al os') ∧
      fQ (fun b=>w2.heap.size≤b∨dw E2 b) w2 w'∧(∀ b o,D2 b o→D' b o)∧(∀ b o,D' b o→b<w'.heap.size)∧(∀ b o,D' b o→b<w2.heap.size→¬ dw E2 b→D2 b o) ∧
      (∀ n e,E2 n=some e→au os' n=true→∃ e',E' n=some e'∧e.le e')∧iD w2 D2 w') (.returned v) w':=fun os jump hbk hp=>by
    have hA3:A3.o 1999999=some (.dO (.loop { rec .ready none with state:=.busy })):=(hbk 1999999 _ (by rw[pX,if_pos rfl])).1
    have hEl3:E3 1999999=some (.op l):=by
     have ho:=hs3.bS 1999999
     rw[hA3] at ho
     rcases hs3.D4 (n:=1999999) (by rw[hcr];exact hEl2) rfl with h | h
     ·exact absurd h (ud ho)
     ·exact h
    have hL3:w3.heap[l]?=some (.loop { rec .ready none with state:=.busy }):=by
     have ho:=hs3.bS 1999999
     rw[hA3] at ho
     obtain ⟨b,k1,_,k3,_⟩:=ho
     rw[hEl3] at k1;cases k1;exact k3
    have hend:=run_endRound (P:=c.P) jump hL3
    have erec:({ rec .ready none with state:=if jump.isNone then LoopState.ready else .done,pending:=jump } : Loop)=rec (if jump.isNone then .ready else .done) jump:=by rw[hrec]
    have hend':(Instr.endRound l jump).run c.P w3=.ok (.bool jump.isNone) (w3.putObj l (.loop (rec (if jump.isNone then .ready else .done) jump))):=by
     rw[hend];rw[hrec]
    have hs4:=hs3.zA (o':=.loop (rec (if jump.isNone then .ready else .done) jump)) hA3 hEl3 rfl
    rw[hcr] at hs4
    obtain ⟨D',E',_,_,_,q1,q2,q3,q4,q5,q6⟩:=hs4.KG (ahy hbk _)
    exact ⟨_,_,hend',_,D',E',.bool jump.isNone,_,rfl,hp,⟨[.bool jump.isNone],by simp[bK,I.isAgg],by simp[ah]⟩,q1,q2,q3,q4,q5,q6⟩
   cases e with
   |normal =>
    obtain ⟨os,hbk,hin⟩:=hq3
    exact br os none hbk (hpost _ _ (.inl ⟨rfl,by rw[hI'];exact ⟨os,rfl,hin⟩⟩))
   |ret =>
    obtain ⟨os,hbk,hin⟩:=hq3
    exact br os (some .ret) hbk (hpost _ _ (.inr ⟨rfl,by rw[hIx'];exact ⟨none,os,rfl,hin⟩⟩))
   |exit id =>
    obtain ⟨os,hbk,hin⟩:=hq3
    exact br os (some (.exit id)) hbk (hpost _ _ (.inr ⟨rfl,by rw[hIx'];exact ⟨some id,os,rfl,hin⟩⟩))
   |goto t=>exact hq3.elim
   |panic ch=>exact hq3.elim
   |outgrown=>exact hq3.elim
  -- the call
  have hargs:fX (aW W1 D E1) (.raw yv::caps) (yv::vs):=by
   exact .cons ⟨[yv],by simp[bK,I.isAgg],by rw[hyv];exact ⟨rfl,rfl⟩⟩ (zr (hup caps vs hvs))
  have hus:=hand.use (ρ:=ρ) hs1 false (fun h=>h.mono) ⟨(fun h=>by cases h),fun _=>by rw[←hDh,←hEh];exact hyok⟩ hgv1 (vt _ (by simp[I.bX,I.bB,hcl]))
   (fun r os' hp=>by
    have gg:fA os1 os':=by
     rcases hp.2 with h | h
     ·exact km _ _ h
     ·exact goodx _ h
    refine ⟨fun m x hx=>⟨(gg.ok m x hx).1,(gg.ok m x hx).2,fun h=>by cases h⟩,fun m m' h1 h2=>hgv1.inj m m' (by rw[←gg.same];exact h1) (by rw[←gg.same];exact h2),fun m hm=>by rw[gg.same];exact hm,fun m h1 h2=>(by rw[gg.same,h2] at h1;cases h1),(by rw[hp.1];simp[I.only,I.bR]),fun h=>by cases h⟩) hargs
  have ecl : #[yv]++vs.toArray=(yv::vs).toArray:=by simp
  rw[ecl]
  refine CallsIn.mono (callsIn_wide.2 hus) ?_
  rintro e w3 ⟨v,r,os',D2,E2,rfl,hp,hs2,_,hE2⟩
  have key:∀ (o3:Obj) (osb:List (Nat×ai)),os'=dI o3 osb→pT o3=true→E2 999999=some (.op l)∧w3.heap[l]?=some o3∧∀ o4,pT o4=true→cw c (av ts (dJ ρ osb++os0)) a1 (w3.putObj l o4):=fun o3 osb he h3=>by
   subst he
   have hn2:E2 999999=some (.op l):=by
    obtain ⟨e',h1,h2⟩:=hE2 1999999 (.op l) (by rw[←hEh];exact hEl) (by rw[lV];simp)
    rw[hρ] at h1
    rw[h1,h2.eq rfl]
   have eos:dJ ρ (dI o3 osb)=(999999,.dO o3)::dJ ρ osb:=by simp only[dI,dJ,List.map_cons,hρ,ai.aR]
   rw[eos] at hs2
   have ha:(av ts ((999999,ai.dO o3)::dJ ρ osb++(999999,.dO (.loop (rec .ready none)))::os0)).o 999999=some (.dO o3):=by simp[av,al]
   have hgb:∀ m,au osb m=true→bD ρ m≠999999:=fun m hm e=>by
    have h5:au (dI o3 osb) m=true:=by rw[lV,hm];simp
    have g5:fA os1 (dI o3 osb):=by
     rcases hp.2 with h | h
     ·exact km _ _ h
     ·exact goodx _ h
    have h6:=hgv1.inj m 1999999 (by rw[←g5.same];exact h5) isrec (by rw[hρ];exact e)
    subst h6
    have h7:fA osb0 osb:=by
     rcases hp.2 with h | h
     ·rw[hI'] at h;obtain ⟨osb',h8,h9⟩:=h
      simp only[dI,List.cons.injEq] at h8
      rw[h8.2];exact hI _ _ h9
     ·rw[hIx'] at h;obtain ⟨e,osb',h8,h9⟩:=h
      simp only[dI,List.cons.injEq] at h8
      rw[h8.2];exact hIx _ _ h9
    rw[h7.same,h19] at hm;cases hm
   refine ⟨hn2,?_,fun o4 h4 =>?_⟩
   ·have ho:=hs2.bS 999999
    rw[ha] at ho
    obtain ⟨b,k1,_,k3,_⟩:=ho
    rw[hn2] at k1;cases k1;exact k3
   ·have h5:=(hs2.zA (o':=o4) ha hn2 h4).Y2 hn2
    have hst:(⟨((av ts ((999999,ai.dO o3)::dJ ρ osb++(999999,.dO (.loop (rec .ready none)))::os0)).aK 999999 (.dO o4)).t,fun m=>if m=999999 then none else
      ((av ts ((999999,ai.dO o3)::dJ ρ osb++(999999,.dO (.loop (rec .ready none)))::os0)).aK 999999 (.dO o4)).o m⟩:af)=av ts (dJ ρ osb++os0):=by
     simp only[av,af.aK]
     congr 1
     funext m
     by_cases hm:m=999999
     ·subst hm
      simp only[if_true,rD]
      cases hq:pre ρ osb 999999 with
      |none=>exact hfree.symm
      |some k=>exact absurd (l9 hq).2 (hgb k (l9 hq).1)
     ·simp only[if_neg hm,List.cons_append,al,rD]
    rw[hst] at h5
    exact ⟨D2,_,h5⟩
  rcases hp.2 with h | h
  ·rw[hI'] at h
   obtain ⟨osb,he,hin⟩:=h
   obtain ⟨k1,k2,k3⟩:=key _ osb he rfl
   refine ⟨none,_,(by have:=run_endLoop (P:=c.P) k2 (by rw[hrec];simp);rw[hrec] at this;exact this),_,hdone osb hin,?_⟩
   have:=k3 (.loop { rec .ready none with state:=.exhausted }) rfl
   rw[ha1] at this
   rw[hrec] at this
   exact this
  ·rw[hIx'] at h
   obtain ⟨e,osb,he,hin⟩:=h
   obtain ⟨k1,k2,k3⟩:=key _ osb he rfl
   refine ⟨some (xZ e),_,(by have:=run_endLoop (P:=c.P) k2 (by rw[hrec];simp);rw[hrec] at this;exact this),?_⟩
   have:=k3 (.loop { rec .done (some (xZ e)) with state:=.exhausted }) rfl
   rw[ha1] at this
   rw[hrec] at this
   have hq:KL c Q (DJ e) { a with defers := { target:=.collected w.heap.size,args := #[] } :: a.defers } _:=⟨_,hexit e osb hin,this⟩
   cases e with
   |none=>exact wpIn_ret hq
   |some id=>exact wpIn_exit hq
end
mutual
theorem ma{ρ:Nat→Nat}(h:∀ n,ρ n=n):∀ x:I,x.aR ρ=x
 | .agg fs | .tuple fs=>by simp only[I.aR];rw[mW h fs]
 | .slice _ es=>by simp only[I.aR];rw[mW h es]
 | .ref x=>by simp only[I.aR];rw[ma h x]
 | .func _ caps=>by simp only[I.aR];rw[mW h caps]
 | .iface _ v=>by simp only[I.aR];rw[ma h v]
 | .ptr _ _ | .own _ _ | .view _ _ _ _ _ | .mref _ | .dv _=>by simp only[I.aR,h]
 | .cT ks vs=>by simp only[I.aR];rw[mW h ks,mW h vs]
 | .bool _ | .int _ _ | .cY _ | .nilp | .dh | .dX | .raw _ | .nils _ | .c0 _ | .undef | .df=>by simp only[I.aR]
theorem mW{ρ:Nat→Nat}(h:∀ n,ρ n=n):∀ xs:List I,I.cX ρ xs=xs
 | []=>rfl
 |x::xs=>by simp only[I.cX];rw[ma h x,mW h xs]
end
theorem ai.ma{ρ:Nat→Nat}(h:∀ n,ρ n=n):∀ x:ai,x.aR ρ=x
 | .box x=>by simp only[ai.aR,Abs.ma h]
 | .bT _ _ es=>by simp only[ai.aR,mW h]
 | .dO _=>rfl
 | .cV _ _=>rfl
 | .cz _ _=>by simp only[ai.aR,mW h]
 | .it _ _ _ _=>by simp only[ai.aR,mW h]
theorem uE(os:List (Nat×ai)):dJ [] os=os:=by
 simp only[dJ]
 have:(fun q:Nat×ai=>(bD [] q.1,q.2.aR (bD [])))=id:=by
  funext q
  rw[ai.ma (ρ:=bD []) (fun n=>rfl)];rfl
 rw[this,List.map_id]
theorem kv(a b:List (Nat×ai))(n:Nat):al (a++b) n=match al a n with
  |some x=>some x
  |none=>al b n:=by
 induction a with
 |nil=>rfl
 |cons q a ih =>
  obtain ⟨k,v⟩:=q
  simp only[List.cons_append,al]
  split
  ·rfl
  ·exact ih
theorem fA.none{os os':List (Nat×ai)}(h:fA os os'){n:Nat}(hn:n<1000000):al os' n=none:=by
 cases hx:al os' n with
 |none=>rfl
 |some x =>
  have h1:au os' n=true:=by simp[au,hx]
  rw[h.same] at h1
  exact absurd (h.oB n h1) (by omega)
theorem aD.da{ts ts':List (Nat×I)}{os os':List (Nat×ai)}(h1:aV ts ts')(h2:∀ n,al os n=al os' n):aD (av ts os) (av ts' os'):=by
 have e:av ts os=av ts os':=by
  simp only[av];congr 1;funext n;exact h2 n
 rw[e]
 rintro c a w ⟨D,E,hs⟩
 refine ⟨D,E,hs.sz,hs.eV,fun t =>?_,hs.dZ,hs.c6,hs.dg,hs.bS,hs.cU,hs.eb,hs.ff,hs.cL,hs.fk,hs.fL⟩
 rcases zG h1 t with h | h
 ·simp only[av];rw[h];simp[aW]
 ·have:=hs.ew t
  simp only[av] at *
  rw[h];exact this
theorem AL{os osk os2 ow:List (Nat×ai)}{ts:List (Nat×I)}(h1:fA os osk)(h2:fA os os2)(how:∀ m,au ow m=true→m<1000000):av ts (dJ [] os2++(ow++osk))=av ts (ow++os2):=by
 simp only[av,uE]
 congr 1
 funext n
 simp only[kv]
 cases hw:al ow n with
 |none =>
  simp only
  cases h3:al os2 n with
  |some x=>rfl
  |none =>
   simp only
   cases h4:al osk n with
   |none=>rfl
   |some x =>
    have h5:au osk n=true:=by simp[au,h4]
    rw[h1.same,←h2.same] at h5
    simp[au,h3] at h5
 |some x =>
  simp only
  rw[h2.none (how n (by simp[au,hw]))]
theorem fP.km{os osk ow:List (Nat×ai)}(h1:fA os osk)(how:∀ m,au ow m=true→m<1000000):fP [] osk (ow++osk):=by
 refine ⟨fun m x hx =>?_,fun m m' _ _ h=>h⟩
 have hm:au osk m=true:=by simp[au,hx]
 have hg:=h1.oB m (by rw[←h1.same];exact hm)
 obtain ⟨k1,k2⟩:=h1.ok m x hx
 refine ⟨?_,k1,k2⟩
 rw[ai.ma (ρ:=bD []) (fun n=>rfl)]
 simp only[bD,kv]
 cases hw:al ow m with
 |none=>exact hx
 |some y=>have:=how m (by simp[au,hw]);omega
theorem dx.km{os osk os2 os0:List (Nat×ai)}{r:I}(h1:fA os osk)(h2:fA os os2)(hr:r.bB=true):dx false [] osk os0 r os2:=by
 refine ⟨fun m x hx=>⟨(h2.ok m x hx).1,(h2.ok m x hx).2,fun h=>by cases h⟩,fun m m' _ _ h=>h,fun m hm=>by rw[h2.same,←h1.same];exact hm,fun m h3 h4 =>?_,mS _ r hr,fun h=>by cases h⟩
 rw[h2.same,←h1.same,h4] at h3;cases h3
theorem a8.Pf{P:Program}{Y:Value→List I→List (Nat×ai)→cR→Prop}{K:af→Prop}{v:Value}{vs:List I}{dst:Option Nat}{rest:List aB}{ts:List (Nat×I)}{os osk ow:List (Nat×ai)}{In Ix:List (Nat×ai)→Prop}
  (hY:Y v vs osk (fun r os2=>(r=.bool true∧In os2)∨(r=.bool false∧Ix os2))) (hk:fA os osk) (hi:∀ os',In os'→fA os os') (hx:∀ os',Ix os'→fA os os') (hcl:I.bX vs=true) (how:∀ m,au ow m=true→m<1000000)
  (h1:∀ os2,In os2→a8 P Y false K (az rest ((av ts (ow++os2)).aJ dst (.bool true)))) (h2:∀ os2,Ix os2→a8 P Y false K (az rest ((av ts (ow++os2)).aJ dst (.bool false)))) :
  a8 P Y false K (.pD v vs dst rest (av ts (ow++osk))):=by
 refine .zQ osk vs _ rfl hY (fP.km hk how) (vt vs hcl) ?_ ?_
 ·rintro r os' (⟨rfl,h⟩ | ⟨rfl,h⟩)
  ·exact dx.km hk (hi _ h) rfl
  ·exact dx.km hk (hx _ h) rfl
 ·rintro r os' (⟨rfl,h⟩ | ⟨rfl,h⟩)
  ·rw[AL hk (hi _ h) how];exact h1 os' h
  ·rw[AL hk (hx _ h) how];exact h2 os' h
theorem CV(A:af)(d:Option Nat)(args:List I)(rest:List aB)(v:Value):sM A d args rest (.raw v)=.pD v args d rest A:=rfl
def my(w:World):aN:=fun b _=>b<w.heap.size
structure jN (P:Program) (t:TypeId) (α:Type) [Enc α]:Prop where
 cells:P.cellsOf t=Enc.sz α
 LX:0<Enc.sz α
 uj:∀ {H:Type} {enc0:TypeId×Value→H} {w:World} {fuel:Nat} {cs:List Value} {x:DataW H×List MemPlace},DataW.trod enc0 P w 0 (fun _=>true) true fuel t cs=some x→∃ a:α,ah w (my w) dK (enc a) cs
theorem akb{P:Program}{t:TypeId}(ht:P.underlying t=some (.int .i64))(hc:P.cellsOf t=1):jN P t Int :=
 ⟨hc,by decide,fun h=>by
  obtain ⟨n,rfl,_,hw⟩:=DataW.trod_int ht h
  refine ⟨n,?_⟩
  rw[jw,ah]
  simp only[Lit.wf,Bool.and_eq_true,decide_eq_true_eq] at hw
  exact ⟨rfl,hw.1,hw.2⟩⟩
theorem C3{α:Type}[Enc α]{w:World}{D:aN}(c:Nat):∀ (n:Nat) (cs:List Value),cs.length=n*c→(∀ i,i<n→∃ a:α,ah w D dK (enc a) ((cs.drop (i*c)).take c))→∃ l:List α,l.length=n∧aG w D dK (l.map enc) cs
 |0,cs,hl,_=>⟨[],rfl,by simp only[Nat.zero_mul,List.length_eq_zero_iff] at hl;subst hl;simp[aG]⟩
 |n+1,cs,hl,h=>by
  obtain ⟨a,ha⟩:=h 0 (by omega)
  simp only[Nat.zero_mul,List.drop_zero] at ha
  obtain ⟨l,h1,h2⟩:=C3 c n (cs.drop c) (by rw[List.length_drop,hl,Nat.succ_mul];omega) (fun i hi=>by
   obtain ⟨b,hb⟩:=h (i+1) (by omega)
   refine ⟨b,?_⟩
   rw[List.drop_drop]
   rwa [Nat.succ_mul,Nat.add_comm] at hb)
  refine ⟨a::l,by simp[h1],?_⟩
  simp only[List.map_cons,aG]
  exact ⟨cs.take c,cs.drop c,(List.take_append_drop c cs).symm,ha,h2⟩
theorem alV{H:Type}{enc0:TypeId×Value→H}{P:Program}{w:World}{base:Nat}{spare:Nat→Bool}{held:Bool}{fuel n:Nat}{t e:TypeId}{cs:List Value}{x:DataW H×List MemPlace}(ht:P.underlying t=some (.array n e))(h:DataW.trod enc0 P w base spare held fuel t cs=some x) :
  ∃ (xs:List (DataW H×List MemPlace)) (m:Nat),cs.length=P.cellsOf t∧xs.length=n∧∀ (i:Nat),i<n→DataW.trod enc0 P w base spare held m e ((cs.drop (i*P.cellsOf e)).take (P.cellsOf e))=xs[i]?:=by
 cases fuel with
 |zero=>simp[DataW.trod] at h
 |succ m =>
  unfold DataW.trod at h
  rw[ht] at h
  split at h <;>simp_all
  obtain ⟨hl,xs,hp,hd⟩:=h
  exact ⟨xs,by simpa using mapM_some_length hp,m,fun i hi=>mapM_some_get hp i i (by simp[hi])⟩
theorem LJ{P:Program}{t e:TypeId}{n:Nat}{α:Type}[Enc α](ht:P.underlying t=some (.array n e))(he:jN P e α)(hc:P.cellsOf t=n*Enc.sz α)(hn:0<n):jN P t (aS n α) :=
 ⟨hc,Nat.mul_pos hn he.LX,fun {H enc0 w fuel cs x} h=>by
  obtain ⟨xs,m,hl,hx,hp⟩:=alV ht h
  obtain ⟨l,h1,h2⟩:=C3 (α:=α) (w:=w) (D:=my w) (Enc.sz α) n cs (by rw[hl,hc]) (fun i hi=>by
   have h3:=hp i hi
   rw[he.cells,List.getElem?_eq_getElem (by omega)] at h3
   exact he.uj h3)
  refine ⟨⟨l,h1⟩,?_⟩
  show ah w (my w) dK (.agg (l.map enc)) cs
  simp only[ah]
  exact h2⟩
theorem QL(a:Addr)(i j:Nat):(a.add i).add j=a.add (i+j):=by
 unfold Addr.add
 by_cases hi:i=0 <;>by_cases hj:j=0 <;>simp[hi,hj,Nat.add_assoc]
theorem LK{P:Program}{t e:TypeId}{α:Type}[Enc α](ht:P.underlying t=some (.slice e))(he:jN P e α)(hc:P.cellsOf t=1):jN P t (List α) :=
 ⟨hc,by rw[pG];exact Nat.one_pos,fun {H enc0 w fuel cs x} h=>by
  rcases DataW.trod_slice ht h with ⟨rfl,_⟩ | ⟨a,len,cap,elems,rest,n,_,rfl,_,hb,hl,hm,hlen,hel,_⟩
  ·refine ⟨[],?_⟩
   simp only[gA,List.map_nil]
   rw[ah]
   exact ⟨none,0,rfl,Nat.le_refl _,by decide,.inl rfl,by simp⟩
  ·have key:∀ k,k≤len→∃ (l:List α) (cs':List Value),l.length=k∧aG w (my w) dK (l.map enc) cs'∧cs'.length=k*Enc.sz α∧∀ j v,cs'[j]?=some v→w.cell? (a.add j)=some v:=by
    intro k
    induction k with
    |zero=>exact fun _=>⟨[],[],rfl,by simp[aG],by simp,by simp⟩
    |succ k ih =>
     intro hk
     obtain ⟨l,cs',h1,h2,h3,h4⟩:=ih (by omega)
     have h5:=hel k (by omega)
     have h6:k<elems.length:=by omega
     rw[List.getElem?_eq_getElem h6] at h5
     obtain ⟨ce,h7,h8⟩:=Option.bind_eq_some_iff.1 h5
     obtain ⟨y,hy⟩:=he.uj h8
     rw[he.cells] at h7
     obtain ⟨_,h9,h10⟩:=World.cells?_some h7
     refine ⟨l++[y],cs'++ce,by simp[h1],?_,by rw[List.length_append,h3,h9,Nat.succ_mul],fun j v hj =>?_⟩
     ·rw[List.map_append]
      refine kE _ _ _ _ h2 ?_
      simp only[List.map_cons,List.map_nil,aG]
      exact ⟨ce,[],by simp,hy,rfl⟩
     ·rcases Nat.lt_or_ge j cs'.length with hlt | hge
      ·rw[List.getElem?_append_left hlt] at hj
       exact h4 j v hj
      ·rw[List.getElem?_append_right hge] at hj
       have hlt:j-cs'.length<Enc.sz α:=by
        have:=(List.getElem?_eq_some_iff.1 hj).1
        omega
       have:=h10 (j-cs'.length) hlt
       rw[QL,←h3,Nat.add_sub_cancel' hge] at this
       rw[this];exact hj
   obtain ⟨l,cs',h1,h2,h3,h4⟩:=key len (Nat.le_refl _)
   refine ⟨l,?_⟩
   simp only[gA,ah,List.length_map]
   refine ⟨some a,cap,by rw[h1],by omega,hm,?_,QU l⟩
   by_cases hz:len=0
   ·left;have:l=[]:=List.length_eq_zero_iff.1 (by omega);rw[this];rfl
   right
   have hpos:0<cs'.length:=by rw[h3];exact Nat.mul_pos (Nat.pos_of_ne_zero hz) he.LX
   have h0:=h4 0 cs'[0] (List.getElem?_eq_getElem hpos)
   have hsp:a.spot=none:=by
    simp only[Addr.add,if_true] at h0
    unfold World.cell? at h0
    split at h0
    ·split at h0
     ·cases h0
     ·rename_i hs;cases hh:a.spot <;>simp_all
    ·cases h0
   have ha:∀ j,a.add j=⟨a.block,a.off+j,none⟩:=fun j=>by
    unfold Addr.add
    split
    ·rename_i hj;subst hj;cases a;simp_all
    ·rfl
   refine ⟨a.block,a.off,cs',by cases a;simp_all,fun j v hj =>?_,h2⟩
   have h5:=h4 j v hj
   rw[ha] at h5
   refine ⟨h5,?_⟩
   show (⟨a.block,a.off+j,none⟩:Addr).block<_
   exact World.block_lt_of_cell? w _ h5⟩
end Go.Abs
namespace Go.Abs
open Go Go.RowKit Go.ChangeShapes
open Enc (enc)
def amn(P:Program)(t:TypeId)(l:List (TypeId×Nat)):Bool:=match P.underlying t with
 |some (.struct fs)=>fs.toList.map (fun f=>(f.type,f.offset))==l
 |_=>false
def Kt(P:Program)(t:TypeId)(n:Nat)(e:TypeId):Bool:=match P.underlying t with
 |some (.array n' e')=>n'==n&&e'==e
 |_=>false
theorem Ku{P:Program}{t:TypeId}{n:Nat}{e:TypeId}(h:Kt P t n e=true):P.underlying t=some (.array n e):=by
 unfold Kt at h
 split at h
 ·rename_i n' e' ht
  simp only[Bool.and_eq_true,beq_iff_eq] at h
  rw[ht,h.1,h.2]
 ·cases h
section
variable {P:Program} {t:TypeId} {α β γ:Type} [Enc α] [Enc β] [Enc γ] {H:Type} {enc0:TypeId×Value→H} {w:World} {fuel:Nat} {cs:List Value} {x:DataW H×List MemPlace}
theorem aka{base:Nat}{v:Value}{d:DataW H}{p:List MemPlace}(ho:jN P t α)(hA:Enc.gn α=true)(hst:(match P.underlying t with | some (.struct _) | some (.array _ _)=>true | _=>false)=true)(hv:Value.okWide P w .any base t v)
  (h:DataW.Trod enc0 P w 0 (fun _=>true) true t v d p):∃ (a:α) (cs:List Value),bK (enc a) v cs∧ah w (my w) dK (enc a) cs:=by
 obtain ⟨fuel,h⟩:=h
 have hagg:∃ cs,v=.agg cs:=by
  unfold Value.okWide at hv
  split at hst
  ·rename_i fs ht;rw[ht] at hv;obtain ⟨cs,h1,_⟩:=hv;exact ⟨cs,h1⟩
  ·rename_i n e ht;rw[ht] at hv;obtain ⟨cs,h1,_⟩:=hv;exact ⟨cs,h1⟩
  ·cases hst
 obtain ⟨cs,rfl⟩:=hagg
 have e:(Value.agg cs).cells.toList=cs.toList:=rfl
 rw[e] at h
 obtain ⟨a,ha⟩:=ho.uj h
 exact ⟨a,cs.toList,by simp[bK,Enc.agg,hA],ha⟩
theorem yV{base:Nat}{v:Value}{d:DataW H}{p:List MemPlace}(ho:jN P t α)(hA:Enc.gn α=false)(hst:(match P.underlying t with | some (.slice _) | some (.int _) | some .bool=>true | _=>false)=true)(hv:Value.okWide P w .any base t v)
  (h:DataW.Trod enc0 P w 0 (fun _=>true) true t v d p):∃ (a:α) (cs:List Value),bK (enc a) v cs∧ah w (my w) dK (enc a) cs:=by
 obtain ⟨fuel,h⟩:=h
 have hone:v.cells.toList=[v]:=by
  unfold Value.okWide at hv
  split at hst
  ·rename_i e ht;rw[ht] at hv;simp only[Cell.okWide,ht] at hv;cases v <;>simp_all[Cell.ok,Value.cells]
  ·rename_i e ht;rw[ht] at hv;simp only[Cell.okWide,ht] at hv;cases v <;>simp_all[Cell.ok,Value.cells]
  ·rename_i ht;rw[ht] at hv;simp only[Cell.okWide,ht] at hv;cases v <;>simp_all[Cell.ok,Value.cells]
  ·cases hst
 rw[hone] at h
 obtain ⟨a,ha⟩:=ho.uj h
 exact ⟨a,[v],by simp[bK,Enc.agg,hA],ha⟩
end
theorem akt{H:Type}{enc0:TypeId×Value→H}{P:Program}{f:Func}{s:ChangeSpec}{apart kl handsOn again:Bool}{W W':World}{args:Array Value}{v:Value}{ds gs:List (DataW H)}{before pa pv:List MemPlace}
  (hW:DataW.Whole enc0 P f.params.toList s.vars apart W args.toList ds gs before)
  (hres:∀ (b:Nat) (sp:Nat→Bool) (hd:Bool),DataW.TrodAll enc0 P W' b sp hd f.resultTypes.toList (v.resultList f.resultTypes.size) (s.fn H (ds++gs)).results [])
  (hargs:∀ sp:Nat→Bool,(∀ p∈before,sp p.block=true)→DataW.TrodAll enc0 P W' 0 sp true f.params.toList args.toList (s.fn H (ds++gs)).args pa)
  (hvars:∀ sp:Nat→Bool,(∀ p∈before,sp p.block=true)→DataW.TrodVars enc0 P W' sp s.vars (s.fn H (ds++gs)).vars pv)
  (hps:before=pa++pv) (hb:Below W.heap.size W W')
  (hok:∀ (j:Nat) (t:TypeId) (r:Value),f.resultTypes[j]?=some t→(v.resultList f.resultTypes.size)[j]?=some r→Value.okWide P W' .any 0 t r) :
  s.post enc0 P f apart kl handsOn again W args v W':=by
 have hlt:∀ p∈before,p.block<W.heap.size:=fun p hp=>by simpa using hW.lt p hp
 have hold:∀ p∈before,(fun b=>decide (b<W.heap.size)) p.block=true:=fun p hp=>by simpa using hlt p hp
 refine ⟨ds,gs,before,[],pa,pv,hW,hres _ _ _,hargs _ hold,hvars _ hold,World.keptBut_mono (fun p hp=>⟨hp,?_⟩) (hb.frame (· ∈ before)),fun _ =>?_⟩
 ·rw[hps,List.mem_append] at hp
  exact Or.inr hp
 ·obtain ⟨_,_,_,_,_,hz,hn⟩:=hW
  refine ⟨hok,_,_,([]++pa)++pv,⟨[]++pa,pv,trodAll_append (hargs _ (fun _ _=>rfl)) (hres _ _ _),hvars _ (fun _ _=>rfl),rfl,?_,?_⟩,?_⟩
  ·intro b off hp
   have hp':MemPlace.cell b off∈before:=by rw[hps];simpa using hp
   rw[hb.frozen (p:=⟨b,off,none⟩) (hlt _ hp')]
   exact hz b off hp'
  ·intro ha
   have:=hn ha
   rw[hps] at this
   simpa using this
  ·intro p hp _
   rw[hps]
   simpa using hp
theorem KC{P:Program}{f:FuncId}{fn:Func}{s:ChangeSpec}{H:Type}{enc0:TypeId×Value→H}{W:World}{ds gs:List (DataW H)}{before:List MemPlace}{xs:List I}{tb:TypeId}{v0 v1 v2:Value}{t0 t1 t2:TypeId}{d0 d1 d2:DataW H}{p0 p1 p2:List MemPlace}{again handsOn kl:Bool}
  (hl:laidOutB P=true) (hpar:fn.params.toList=[t0,t1,t2]) (hds:ds=[d0,d1,d2]) (hgs:gs=[]) (hbef:before=p0++p1++p2)
  (hvars:s.vars=[]) (hfn:s.fn H [d0,d1,d2] = { results:=[.lit (.bool true)],args:=[d0,d1,d2] }) (hres:fn.resultTypes = #[tb]) (htb:P.underlying tb=some .bool)
  (hW:DataW.Whole enc0 P fn.params.toList s.vars false W #[v0,v1,v2].toList ds gs before)
  (h0:DataW.Trod enc0 P W 0 (fun _=>true) true t0 v0 d0 p0) (h1:DataW.Trod enc0 P W 0 (fun _=>true) true t1 v1 d1 p1) (h2:DataW.Trod enc0 P W 0 (fun _=>true) true t2 v2 d2 p2)
  (hr:∀ t∈[t0,t1,t2],P.readableRec t=true∧t<P.types.size)
  (hctr:aA P f xs (enc true)) (hv:aF W (my W) dK xs [v0,v1,v2]) :
  Calls P f #[v0,v1,v2] W fun e W'=>∃ v,e=.returned v∧s.post enc0 P fn false kl handsOn again W #[v0,v1,v2] v W':=by
 subst hds hgs
 refine (hctr.2 W (my W) [v0,v1,v2] (fun _ _ h=>h) hv).mono fun e W' ⟨v,D',he,hrv,hb,_,_⟩=>⟨v,he,?_⟩
 have hvb:v=.bool true:=me hrv
 subst hvb
 have hlt:∀ x∈before,x.block<W.heap.size:=fun x hx=>by simpa using hW.lt x hx
 rw[hbef] at hlt
 refine akt (pa:=p0++(p1++p2)) (pv:=[]) hW (fun _ _ _ =>?_) (fun sp hsp =>?_) (fun _ _ =>?_) (by rw[hbef];simp) hb ?_
 ·simp only[List.append_nil,hfn,hres]
  exact trodAll_mk1 (shut_bool htb true)
 ·simp only[List.append_nil,hfn,hpar]
  rw[hbef] at hsp
  have bu:∀ {t:TypeId} {v:Value} {d:DataW H} {p:List MemPlace},t∈[t0,t1,t2]→DataW.Trod enc0 P W 0 (fun _=>true) true t v d p→(∀ x∈p,x∈p0++p1++p2)→DataW.Trod enc0 P W' 0 sp true t v d p:=fun ht h hp =>
   WideElems.Trod_stays hl (hr _ ht).1 (hr _ ht).2 h (fun x hx=>hb.same (hlt x (hp x hx))) (fun x hx=>hsp x (hp x hx))
  exact trodAll_mk3 (bu (by simp) h0 fun x hx=>by simp[hx]) (bu (by simp) h1 fun x hx=>by simp[hx]) (bu (by simp) h2 fun x hx=>by simp[hx])
 ·simp only[List.append_nil,hfn,hvars]
  rfl
 ·intro j t r hj hv'
  rw[hres] at hj hv'
  match j,hj,hv' with
  |0,hj,hv' =>
   simp[Value.resultList] at hj hv'
   subst hj;subst hv'
   simp[Value.okWide,htb,Cell.okWide,Cell.ok]
theorem yW{P:Program}{t e:TypeId}{α:Type}[Enc α]{H:Type}{enc0:TypeId×Value→H}{w:World}{base:Nat}{v:Value}{d:DataW H}{p:List MemPlace}(ho:jN P t (List α))(hu:P.underlying t=some (.slice e))(hv:Value.okWide P w .any base t v)
  (h:DataW.Trod enc0 P w 0 (fun _=>true) true t v d p):∃ l:List α,(∃ cs:List Value,bK (enc l) v cs∧ah w (my w) dK (enc l) cs)∧(l.length=0∨∃ elems spare,d=.slice elems spare∧elems.length=l.length):=by
 obtain ⟨l,cs,h1,h2⟩:=yV ho rfl (by rw[hu]) hv h
 refine ⟨l,⟨cs,h1,h2⟩,?_⟩
 have hcs:cs=[v]:=by simpa[bK,gA,I.isAgg] using h1
 subst hcs
 simp only[gA,ah] at h2
 obtain ⟨a,cap,h3,_⟩:=h2
 simp only[List.cons.injEq,and_true,List.length_map] at h3
 subst h3
 obtain ⟨fuel,h⟩:=h
 have hc:(Value.slice a l.length cap).cells.toList=[Value.slice a l.length cap]:=rfl
 rw[hc] at h
 rcases DataW.trod_slice hu h with ⟨h4,_⟩ | ⟨a',len,cap',elems,rest,n,_,h4,h5,_,_,_,hlen,_⟩
 ·simp only[List.cons.injEq,Value.slice.injEq,and_true] at h4
  exact .inl h4.2.1
 ·simp only[List.cons.injEq,Value.slice.injEq,and_true] at h4
  simp only[Prod.mk.injEq] at h5
  exact .inr ⟨_,_,h5.1,by rw[List.length_map,hlen,h4.2.1]⟩
theorem aie{H:Type}{P:Program}{ts:List TypeId}{ds:List (DataW H)}(hz:(DataW.weightsEach P ts ds).all (· ≤ reachBytes)=true){j:Nat}{t e:TypeId}{d:DataW H}{n:Nat}(ht:ts[j]?=some t)(hd:ds[j]?=some d)(hu:P.underlying t=some (.slice e))(hb:0<P.bytesOf e)
  (h:n=0∨∃ elems spare,d=.slice elems spare∧elems.length=n):n≤140737488355328:=by
 rcases h with h | ⟨elems,spare,rfl,h⟩
 ·omega
 ·have h1:=sized_slice hz ht hd hu
  have h2:reachBytes<2^47:=reachBytes_lt
  have h3:elems.length≤(elems.length+spare.length)*P.bytesOf e:=Nat.le_trans (Nat.le_add_right _ _) (Nat.le_mul_of_pos_right _ hb)
  omega
end Go.Abs
namespace Go.Abs
open Go Go.RowKit
def sO(on:List (List Nat)):List Nat:=on.foldl (fun acc ks=>acc++[pc acc ks]) []
def vY(d:Option (List (List Nat)))(gs:List aB):Bool:=match d with
 |none=>true
 |some on=>sR on gs (sO on)
section
variable {c:cQ} {Q:Exit→af→Prop} {A:af} {d:Option (List (List Nat))} {on:List (List Nat)} {gs:List aB}
theorem ab.bl(hd:vY d gs=true)(h:∀ K:af→Prop,(∀ B,Q .normal B→K B)→a8 c.P c.Y d.isSome K (az gs A)):ab c (.bW d gs) Q A:=by
 cases d with
 |none=>exact ab.bW (cl:=[]) rfl h
 |some on=>exact ab.bW (cl:=sO on) hd h
theorem ab.ao{y:aM}(hd:vY d gs=true)(h:∀ K:af→Prop,(∀ B,ab c y Q B→K B)→a8 c.P c.Y d.isSome K (az gs A)):ab c (.seq (.bW d gs) y) Q A :=
 ab.seq (ab.bl hd h)
theorem ab.ql(hs:List FuncId)(ay:eZ)(σ:List Nat)(hd:uq hs ay on gs (sO on) σ=true)(hi:eU ay A)(h:∀ K:af→Prop,(∀ B,Q .normal B→K B)→cG c.P hs K (az (nU σ gs) A)):ab c (.bW (some on) gs) Q A :=
 ab.akM hs ay (sO on) σ hd hi h
def gJ(c:cQ):aM→(Exit→af→Prop)→af→Prop
 | .seq x y,Q,A=>gJ c x (aq (fun B=>ab c y Q B) Q) A
 | .block id x,Q,A=>gJ c x (bN id Q) A
 | .skip,Q,A=>Q .normal A
 | .exit id,Q,A=>Q (.exit id) A
 | .ret,Q,A=>Q .ret A
 | .cond b x y,Q,A=>ar (ae A b) (ab c x Q A) (ab c y Q A)
 |x,Q,A=>ab c x Q A
def ahO:aM→Bool
 | .seq _ _ | .block _ _ | .skip | .exit _ | .ret | .cond _ _ _=>true
 |_=>false
theorem gJ.vw:∀ (x:aM) {Q:Exit→af→Prop} {A:af},gJ c x Q A→ab c x Q A
 | .seq x y,_,_,h=>ab.seq (gJ.vw x h)
 | .block id x,_,_,h=>ab.block (gJ.vw x h)
 | .skip,_,_,h=>ab.skip h
 | .exit _,_,_,h=>ab.exit h
 | .ret,_,_,h=>ab.ret h
 | .cond _ _ _,_,_,h=>ab.bC h
 | .bW _ _,_,_,h | .loop _,_,_,h | .scope _,_,_,h | .label,_,_,h | .lh _ _ _ _,_,_,h=>h
theorem ab.of{x:aM}(_:ahO x=true)(h:gJ c x Q A):ab c x Q A:=gJ.vw x h
theorem aQ :
  (∀ c x y Q A,gJ c (.seq x y) Q A=gJ c x (aq (fun B=>ab c y Q B) Q) A)∧(∀ c id x Q A,gJ c (.block id x) Q A=gJ c x (bN id Q) A)∧(∀ c Q A,gJ c .skip Q A=Q .normal A)∧(∀ c id Q A,gJ c (.exit id) Q A=Q (.exit id) A)∧(∀ c Q A,gJ c .ret Q A=Q .ret A) ∧
  (∀ c b x y Q A,gJ c (.cond b x y) Q A=ar (ae A b) (ab c x Q A) (ab c y Q A))∧(∀ c d gs Q A,gJ c (.bW d gs) Q A=ab c (.bW d gs) Q A)∧(∀ c x Q A,gJ c (.loop x) Q A=ab c (.loop x) Q A)∧(∀ c f ps x y Q A,gJ c (.lh f ps x y) Q A=ab c (.lh f ps x y) Q A) ∧
  (∀ k Q A,aq k Q .normal A=k A)∧(∀ k Q A,aq k Q .ret A=Q .ret A)∧(∀ k Q A i,aq k Q (.exit i) A=Q (.exit i) A)∧(∀ i Q A,bN i Q .normal A=Q .normal A)∧(∀ i Q A,bN i Q .ret A=Q .ret A)∧(∀ i Q A j,bN i Q (.exit j) A=if j=i then Q .normal A else Q (.exit j) A) ∧
  (∀ p q,ar (.bool true) p q=p)∧(∀ p q,ar (.bool false) p q=q)∧(type_of% @x4) :=
 ⟨fun _ _ _ _ _=>rfl,fun _ _ _ _ _=>rfl,fun _ _ _=>rfl,fun _ _ _ _=>rfl,fun _ _ _=>rfl,fun _ _ _ _ _ _=>rfl,fun _ _ _ _ _=>rfl,fun _ _ _ _=>rfl,fun _ _ _ _ _ _ _=>rfl,fun _ _ _=>rfl,fun _ _ _=>rfl,fun _ _ _ _=>rfl,fun _ _ _=>rfl,fun _ _ _=>rfl,fun _ _ _ _=>rfl,
  fun p q=>by simp[ar],fun p q=>by simp[ar],x4⟩
theorem ar.aL{t:Bool}{p q:Prop}(h1:t=true→p)(h2:t=false→q):ar (.bool t) p q:=⟨h1,h2⟩
theorem ab.aO{g:aB}{r:List aB}(hd:vY d gs=true)(e:gs=g::r)(h:∀ K:af→Prop,(∀ B,Q .normal B→K B)→a8 c.P c.Y d.isSome K (az (g::r) A)):ab c (.bW d gs) Q A :=
 ab.bl hd (e▸h)
theorem a8.aI(ay:List Nat){P:Program}{Y:Value→List I→List (Nat×ai)→cR→Prop}{dr:Bool}{x:aM}{K:af→Prop}{ts:List (Nat×I)}{os:List (Nat×ai)}(hK:∀ B,ab c x Q B→K B)(h:ab c x Q (av (ic ay ts) os)):a8 P Y dr K (.done (av ts os)) :=
 .done (hK _ (ab.fT ay h))
theorem cG.aI(ay:List Nat){P:Program}{hs:List FuncId}{x:aM}{K:af→Prop}{ts:List (Nat×I)}{os:List (Nat×ai)}(hK:∀ B,ab c x Q B→K B)(h:ab c x Q (av (ic ay ts) os)):cG P hs K (.done (av ts os)) :=
 .done (hK _ (ab.fT ay h))
end
end Go.Abs
namespace Go.Abs.C
open Go Go.Abs
abbrev o(a:Nat)(x:b8):aB:=⟨some a,x,none⟩
abbrev bQ(a:Nat)(x:b8)(k:Nat):aB:=⟨some a,x,some (k,true)⟩
abbrev on(a:Nat)(x:b8)(k:Nat):aB:=⟨some a,x,some (k,false)⟩
abbrev p(x:b8):aB:=⟨none,x,none⟩
abbrev aj(n:Int):aH:=.c (.int .i64 n)
abbrev T:aH:=.c (.bool true)
abbrev bt:aH:=.c (.bool false)
abbrev m(a b:Nat):aB:=⟨some a,.mv (.t b),none⟩
abbrev c8(a b k:Nat):aB:=⟨some a,.mv (.t b),some (k,true)⟩
abbrev eK(a b k:Nat):aB:=⟨some a,.mv (.t b),some (k,false)⟩
abbrev bd(a:Nat)(n:Int):aB:=⟨some a,.mv (.c (.int .i64 n)),none⟩
abbrev l(a b:Nat):aB:=⟨some a,.ld none (.t b),none⟩
abbrev eI(a b k:Nat):aB:=⟨some a,.ld none (.t b),some (k,true)⟩
abbrev mJ(a b k:Nat):aB:=⟨some a,.ld none (.t b),some (k,false)⟩
abbrev ay(a s b:Nat):aB:=⟨some a,.ld (some s) (.t b),none⟩
abbrev f(a b c d:Nat):aB:=⟨some a,.fa b c (.t d),none⟩
abbrev dW(a b c d k:Nat):aB:=⟨some a,.fa b c (.t d),some (k,true)⟩
abbrev fn(a b c d k:Nat):aB:=⟨some a,.fa b c (.t d),some (k,false)⟩
abbrev ad(a b:Nat)(n:Int):aB:=⟨some a,.bin .add (.t b) (.c (.int .i64 n)),none⟩
abbrev lt(a b c:Nat):aB:=⟨some a,.bin .lss (.t b) (.t c),none⟩
abbrev and(a b c:Nat):aB:=⟨some a,.pick (.t b) (.t c) (.c (.bool false)),none⟩
abbrev or(a b c:Nat):aB:=⟨some a,.pick (.t b) (.c (.bool true)) (.t c),none⟩
abbrev no(a b:Nat):aB:=⟨some a,.un .not (.t b),none⟩
abbrev b(a c:Nat):aB:=⟨some a,.box (.t c),none⟩
abbrev s(x y:aM):aM:=.seq x y
abbrev r(g:List aB):aM:=.bW none g
abbrev bH(P:Program)(f:Func)(c:aM):Prop:=f.body.bind (fq P f.ntmps)=some c
abbrev bI(P:Program)(f:Func)(r:List bg):Prop:=iX P f.results.toList=some r
abbrev bG(P:Program)(n:FuncId):Prop:=hT P n=true
theorem e{α:Type}{a b:α}(h:a=b):a=b:=h
end Go.Abs.C
namespace Go.Proofs.YtcldiigclhgafaaGreat
open Go Go.Abs Go.Abs.C
def Et:=[o 4 (.mv (.c (.nils 17))),bd 5 0]
def Eu:=[m 11 0,o 12 (.call 136 [.t 11]),m 6 12]
def Ev:=[m 13 1,o 14 (.len (.t 13)),bd 15 0]
def Z1:=[lt 16 15 14]
def Z2:=[o 17 (.is 17 (.t 13) (.t 15)),ay 18 17 17,o 8 (.alloc (.agg [.agg [.int .i64 0,.int .i64 0],.int .i64 0,.int .i64 0,.int .i64 0,.int .i64 0,.int .i64 0,.int .i64 0,.int .i64 0,.agg [.int .i64 0,.int .i64 0,.int .i64 0,.int .i64 0,.int .i64 0,.int .i64 0],.agg [.int .i64 0,.int .i64 0]])),p (.bu (some 17) (.t 8) (.t 18))]
def Z3:=[m 20 6,f 21 0 0 8,ay 22 2 21,o 23 (.call 103 [.t 20,.t 22]),m 19 23,o 24 (.ext (.t 19) 0),o 25 (.ext (.t 19) 1),m 9 24,m 10 25]
def Z4:=[m 26 10,m 27 26,c8 28 6 27,c8 29 9 27,bQ 30 (.is 17 (.t 28) (.t 29)) 27,bQ 31 (.ld (some 17) (.t 30)) 27,bQ 32 (.ld (some 17) (.t 8)) 27,bQ 33 (.eqv (.bu [(.bu [(.i .i64),(.i .i64)]),(.i .i64),(.i .i64),(.i .i64),(.i .i64),(.i .i64),(.i .i64),(.i .i64),(.jO 6 (.i .i64)),(.bu [(.i .i64),(.i .i64)])]) true (.t 31) (.t 32)) 27,and 34 27 33]
def XO:=some [[],[0],[1],[1],[2,3,1],[4,1],[1],[5,6,1],[1,7]]
def Z5:=[o 4 (.mv (.c (.nils 17))),bd 5 43]
def Z6:=[m 35 10,no 36 35]
def Z7:=[m 37 6,m 38 9,ay 39 17 8,o 40 (.bs 17 [.t 39]),o 41 (.call 153 [.t 37,.t 38,.t 40]),m 6 41]
def ZX:=[ad 42 15 1,m 15 42]
def ZY:=[m 43 6,o 44 (.len (.t 43)),o 45 (.bin .gtr (.t 44) (aj 60))]
def ZZ:=[o 4 (.mv (.c (.nils 17))),bd 5 2]
def Z0:=[m 46 6,m 4 46,bd 5 0]
def A1:aM:=(s (r Et) (s (r Eu) (s (s (r Ev) (.block 0 (.loop (s (r Z1) (s (.cond (.t 16) .skip (.exit 0)) (s (.block 1 (s (r Z2) (s (r Z3) (s (s (.bW XO Z4) (.cond (.t 34) (s (r Z5) .ret) .skip)) (s (r Z6) (.cond (.t 36) (r Z7) .skip)))))) (r ZX))))))) (s (s (r ZY) (.cond (.t 45) (s (r ZZ) .ret) .skip)) (s (r Z0) .ret)))))
def L9:List bg:=[.tmp 4,.tmp 5]
theorem TR:bH Tryz.prog Tryz.f112 A1:=e (by kernel_rfl)
theorem VY:bI Tryz.prog Tryz.f112 L9:=e (by kernel_rfl)
theorem RY:bG Tryz.prog 112:=e (by kernel_rfl)
def Ew:=[o 6 (.mv bt)]
def Ey:=[m 7 1,m 8 0,o 9 (.bin .leq (.t 7) (.t 8)),m 10 9,c8 11 0 10,c8 12 2 10,bQ 13 (.bin .leq (.t 11) (.t 12)) 10,and 14 10 13,m 6 14]
def A2:aM:=(s (r Ew) (s (r Ey) .ret))
def Ma:List bg:=[.tmp 6]
theorem TS:bH Tryz.prog Tryz.f114 A2:=e (by kernel_rfl)
theorem VZ:bI Tryz.prog Tryz.f114 Ma:=e (by kernel_rfl)
theorem RZ:bG Tryz.prog 114:=e (by kernel_rfl)
def Ez:=[b 1 0,o 2 (.mv bt)]
def EA:=[f 3 0 0 1,l 4 3,o 5 (.call 114 [.t 4,(aj 0),(aj 5)]),m 6 5,dW 7 1 1 1 6,eI 8 7 6,bQ 9 (.call 114 [.t 8,(aj 0),(aj 9999)]) 6,and 10 6 9,m 2 10]
def A4:aM:=(s (r Ez) (s (r EA) .ret))
def Mb:List bg:=[.tmp 2]
theorem TT:bH Tryz.prog Tryz.f115 A4:=e (by kernel_rfl)
theorem V0:bI Tryz.prog Tryz.f115 Mb:=e (by kernel_rfl)
theorem R0:bG Tryz.prog 115:=e (by kernel_rfl)
def EB:=[b 1 0,o 2 (.mv bt)]
def EC:=[f 5 0 0 1,ay 6 2 5,f 7 1 2 1,l 8 7,f 9 2 3 1,l 10 9,f 11 3 4 1,l 12 11,f 13 4 5 1,l 14 13,o 15 (.bld [.agg [.int .i64 0,.int .i64 0],.int .i64 0,.int .i64 0,.int .i64 0,.int .i64 0,.int .i64 0,.int .i64 0,.int .i64 0,.agg [.int .i64 0,.int .i64 0,.int .i64 0,.int .i64 0,.int .i64 0,.int .i64 0],.agg [.int .i64 0,.int .i64 0]] [(0,(.t 6)),(1,(.t 8)),(2,(.t 10)),(3,(.t 12)),(4,(.t 14))]),o 3 (.alloc (.agg [.agg [.int .i64 0,.int .i64 0],.int .i64 0,.int .i64 0,.int .i64 0,.int .i64 0,.int .i64 0,.int .i64 0,.int .i64 0,.agg [.int .i64 0,.int .i64 0,.int .i64 0,.int .i64 0,.int .i64 0,.int .i64 0],.agg [.int .i64 0,.int .i64 0]])),p (.bu (some 17) (.t 3) (.t 15))]
def ED:=[f 16 4 5 1,l 17 16,o 18 (.call 154 [.t 17]),m 4 18]
def aal:=[f 19 1 2 1,l 20 19]
def aam:=[o 22 (.bin .eql (.t 20) (aj 0)),m 21 22]
def wC:=[f 23 9 15 1,ay 24 2 23,f 25 4 5 3,p (.bu none (.t 25) (aj 0)),f 26 9 15 3,p (.bu (some 2) (.t 26) (.t 24))]
def XP:=some [[],[0],[],[2],[0,1,2,3],[4,1,3,0,1,2,3]] -- DRAW BAD
def aan:=[f 27 2 3 1,l 28 27,o 29 (.bin .eql (.t 28) (aj 0)),m 30 29,dW 31 9 15 1 30,bQ 32 (.ld (some 2) (.t 31)) 30,bQ 33 (.call 115 [.t 32]) 30,and 34 30 33,m 35 34,dW 36 9 15 1 35,dW 37 0 0 36 35,eI 38 37 35,dW 39 0 0 1 35,dW 40 0 0 39 35,eI 41 40 35,bQ 42 (.bin .eql (.t 38) (.t 41)) 35,and 43 35 42,m 44 43,dW 45 9 15 1 44,dW 46 1 1 45 44,eI 47 46 44,dW 48 0 0 1 44,dW 49 1 1 48 44,eI 50 49 44,bQ 51 (.bin .lss (.t 47) (.t 50)) 44,and 52 44 51,m 4 52]
def aao:=[o 54 (.bin .eql (.t 20) (aj 1)),m 53 54]
def wD:=[f 55 6 7 1,l 56 55,f 57 7 8 1,l 58 57,f 59 5 6 1,l 60 59,f 61 6 7 3,p (.bu none (.t 61) (.t 56)),f 62 7 8 3,p (.bu none (.t 62) (.t 58)),f 63 5 6 3,p (.bu none (.t 63) (.t 60))]
def XQ:=some [[],[0],[],[2],[],[4],[0,1],[6,1,0,1],[0,1,2,3,6,7],[8,3,7,0,1,2,3,6,7],[0,1,2,3,4,5,6,7,8,9],[10,5,9,0,1,2,3,4,5,6,7,8,9]] -- DRAW BAD
def aap:=[m 64 4,m 65 64,dW 66 6 7 1 65,eI 67 66 65,bQ 68 (.call 155 [.t 67]) 65,and 69 65 68,m 70 69,dW 71 7 8 1 70,eI 72 71 70,bQ 73 (.call 156 [.t 72]) 70,and 74 70 73,m 75 74,dW 76 5 6 1 75,eI 77 76 75,bQ 78 (.call 114 [.t 77,(aj 0),(aj 9999)]) 75,and 79 75 78,m 80 79,dW 81 5 6 1 80,eI 82 81 80,dW 83 4 5 1 80,eI 84 83 80,bQ 85 (.bin .neq (.t 82) (.t 84)) 80,and 86 80 85,m 4 86]
def Z8:=[o 88 (.bin .eql (.t 20) (aj 2)),m 87 88]
def Z9:=[f 89 6 7 1,l 90 89,f 91 6 7 3,p (.bu none (.t 91) (.t 90))]
def aaa:=[m 92 4,m 93 92,dW 94 6 7 1 93,eI 95 94 93,bQ 96 (.call 155 [.t 95]) 93,and 97 93 96,m 4 97]
def aab:=[o 99 (.bin .eql (.t 20) (aj 3)),m 98 99]
def aac:=[o 100 (.bin .eql (.t 20) (aj 5)),m 98 100]
def aad:=[f 101 7 8 1,l 102 101,f 103 7 8 3,p (.bu none (.t 103) (.t 102))]
def aae:=[m 104 4,m 105 104,dW 106 7 8 1 105,eI 107 106 105,bQ 108 (.call 156 [.t 107]) 105,and 109 105 108,m 4 109]
def aaf:=[o 111 (.bin .eql (.t 20) (aj 4)),m 110 111]
def aag:=[f 112 8 9 1,ay 113 6 112,f 114 8 9 3,p (.bu (some 6) (.t 114) (.t 113))]
def aah:=[m 115 4,m 116 115,dW 117 8 9 1 116,bQ 118 (.ld (some 6) (.t 117)) 116,bQ 119 (.call 157 [.t 118]) 116,bQ 120 (.bin .eql (.t 119) (aj 0)) 116,and 121 116 120,m 4 121]
def aai:=[o 123 (.bin .eql (.t 20) (aj 6)),m 122 123]
def aaj:=[o 2 (.mv bt)]
def aak:=[m 124 4,m 125 124,bQ 126 (.ld (some 17) (.t 1)) 125,bQ 127 (.ld (some 17) (.t 3)) 125,bQ 128 (.eqv (.bu [(.bu [(.i .i64),(.i .i64)]),(.i .i64),(.i .i64),(.i .i64),(.i .i64),(.i .i64),(.i .i64),(.i .i64),(.jO 6 (.i .i64)),(.bu [(.i .i64),(.i .i64)])]) false (.t 126) (.t 127)) 125,and 129 125 128,m 130 129,dW 131 0 0 1 130,bQ 132 (.ld (some 2) (.t 131)) 130,bQ 133 (.call 115 [.t 132]) 130,and 134 130 133,m 135 134,dW 136 2 3 1 135,eI 137 136 135,bQ 138 (.call 127 [.t 137]) 135,and 139 135 138,m 140 139,dW 141 3 4 1 140,eI 142 141 140,bQ 143 (.call 127 [.t 142]) 140,and 144 140 143,m 2 144]
def A5:aM:=(s (r EB) (s (r EC) (s (r ED) (s (s (r aal) (.block 0 (s (r aam) (.cond (.t 21) (s (.bW XP wC) (r aan)) (s (r aao) (.cond (.t 53) (s (.bW XQ wD) (r aap)) (s (r Z8) (.cond (.t 87) (s (r Z9) (r aaa)) (s (s (r aab) (.cond (.t 98) .skip (r aac))) (.cond (.t 98) (s (r aad) (r aae)) (s (r aaf) (.cond (.t 110) (s (r aag) (r aah)) (s (r aai) (.cond (.t 122) .skip (s (r aaj) .ret))))))))))))))) (s (r aak) .ret)))))
def Mc:List bg:=[.tmp 2]
theorem TU:bH Tryz.prog Tryz.f117 A5:=e (by kernel_rfl)
theorem V1:bI Tryz.prog Tryz.f117 Mc:=e (by kernel_rfl)
theorem R1:bG Tryz.prog 117:=e (by kernel_rfl)
def EE:=[b 2 0,b 3 1,bd 4 0]
def EF:=[f 5 0 0 2,l 6 5,f 7 0 0 3,l 8 7,o 9 (.call 159 [.t 6,.t 8]),f 10 1 1 2,l 11 10,f 12 1 1 3,l 13 12,o 14 (.call 159 [.t 11,.t 13]),o 15 (.bs 1 [.t 9,.t 14]),o 16 (.call 158 [.t 15]),m 4 16]
def XR:=some [[],[0],[],[2],[1,3],[],[5],[],[7],[6,8,4],[4,9],[10,9],[11,11,0,1,2,3,4,5,6,7,8,9,10,11]]
def A6:aM:=(s (r EE) (s (.bW XR EF) .ret))
def Md:List bg:=[.tmp 4]
theorem TV:bH Tryz.prog Tryz.f118 A6:=e (by kernel_rfl)
theorem V2:bI Tryz.prog Tryz.f118 Md:=e (by kernel_rfl)
theorem R2:bG Tryz.prog 118:=e (by kernel_rfl)
def EH:=[b 1 0,o 2 (.mv bt)]
def EI:=[ay 6 5 1,bd 7 0]
def EJ:=[o 8 (.bin .lss (.t 7) (aj 5))]
def EK:=[m 9 7,o 10 (.ix 5 1 none (.t 6) (.t 7)),m 3 9,m 4 10]
def EL:=[m 11 4,m 5 11]
def EM:=[m 12 5,o 13 (.call 160 [.t 12]),no 14 13,m 15 14,eK 16 5 15,eK 17 3 15,on 18 (.call 161 [.t 16,.t 17]) 15,on 19 (.un .not (.t 18)) 15,or 20 15 19]
def wG:=[o 2 (.mv bt)]
def EN:=[ad 21 7 1,m 7 21]
def EO:=[o 2 (.mv T)]
def A7:aM:=(s (r EH) (s (s (r EI) (.block 0 (.loop (s (r EJ) (s (.cond (.t 8) .skip (.exit 0)) (s (.block 1 (s (r EK) (s (r EL) (s (r EM) (.cond (.t 20) (s (r wG) .ret) .skip))))) (r EN))))))) (s (r EO) .ret)))
def Me:List bg:=[.tmp 2]
theorem TW:bH Tryz.prog Tryz.f120 A7:=e (by kernel_rfl)
theorem V3:bI Tryz.prog Tryz.f120 Me:=e (by kernel_rfl)
theorem R3:bG Tryz.prog 120:=e (by kernel_rfl)
def EP:=[o 6 (.mv bt)]
def ER:=[m 7 1,m 8 0,o 9 (.bin .leq (.t 7) (.t 8)),m 10 9,c8 11 0 10,c8 12 2 10,bQ 13 (.bin .leq (.t 11) (.t 12)) 10,and 14 10 13,m 6 14]
def A8:aM:=(s (r EP) (s (r ER) .ret))
def Mf:List bg:=[.tmp 6]
theorem TX:bH Tryz.prog Tryz.f121 A8:=e (by kernel_rfl)
theorem V4:bI Tryz.prog Tryz.f121 Mf:=e (by kernel_rfl)
theorem R4:bG Tryz.prog 121:=e (by kernel_rfl)
def ES:=[o 2 (.mv bt)]
def ET:=[m 3 0,o 4 (.call 121 [.t 3,(aj 1),(aj 99)]),m 2 4]
def A9:aM:=(s (r ES) (s (r ET) .ret))
def Mg:List bg:=[.tmp 2]
theorem TY:bH Tryz.prog Tryz.f122 A9:=e (by kernel_rfl)
theorem V5:bI Tryz.prog Tryz.f122 Mg:=e (by kernel_rfl)
theorem R5:bG Tryz.prog 122:=e (by kernel_rfl)
def EU:=[b 1 0,o 2 (.mv bt)]
def EV:=[o 3 (.va 6 1 (.t 1)),o 4 (.call 125 [.t 3,(.c (.func 162 []))]),no 5 4,m 2 5]
def Ba:aM:=(s (r EU) (s (r EV) .ret))
def Mh:List bg:=[.tmp 2]
theorem TZ:bH Tryz.prog Tryz.f123 Ba:=e (by kernel_rfl)
theorem V6:bI Tryz.prog Tryz.f123 Mh:=e (by kernel_rfl)
theorem R6:bG Tryz.prog 123:=e (by kernel_rfl)
def EW:=[b 3 0,b 5 2,o 6 (.mv bt)]
def EX:=[m 7 1,o 8 (.mk 164 [.t 3,.t 5]),o 9 (.call 163 [.t 7,.t 8]),no 10 9,m 6 10]
def Bb:aM:=(s (r EW) (s (r EX) .ret))
def Mi:List bg:=[.tmp 6]
theorem T0:bH Tryz.prog Tryz.f124 Bb:=e (by kernel_rfl)
theorem V7:bI Tryz.prog Tryz.f124 Mi:=e (by kernel_rfl)
theorem R7:bG Tryz.prog 124:=e (by kernel_rfl)
def EY:=[o 4 (.mv bt)]
def EZ:=[m 5 0,m 6 1,o 7 (.call 166 [.t 5,.t 6]),o 8 (.bin .geq (.t 7) (aj 0)),m 4 8]
def Bc:aM:=(s (r EY) (s (r EZ) .ret))
def Mj:List bg:=[.tmp 4]
theorem T3:bH Tryz.prog Tryz.f125 Bc:=e (by kernel_rfl)
theorem V8:bI Tryz.prog Tryz.f125 Mj:=e (by kernel_rfl)
theorem R8:bG Tryz.prog 125:=e (by kernel_rfl)
def aaO:=[o 2 (.mv bt)]
def aaP:=[m 3 0,o 4 (.call 127 [.t 3]),no 5 4,m 2 5]
def Bd:aM:=(s (r aaO) (s (r aaP) .ret))
def Mk:List bg:=[.tmp 2]
theorem T4:bH Tryz.prog Tryz.f126 Bd:=e (by kernel_rfl)
theorem V9:bI Tryz.prog Tryz.f126 Mk:=e (by kernel_rfl)
theorem R9:bG Tryz.prog 126:=e (by kernel_rfl)
def E0:=[o 2 (.mv bt)]
def E4:=[m 3 0,o 4 (.call 114 [.t 3,(aj 0),(aj 100000)]),m 2 4]
def Be:aM:=(s (r E0) (s (r E4) .ret))
def Ml:List bg:=[.tmp 2]
theorem T5:bH Tryz.prog Tryz.f127 Be:=e (by kernel_rfl)
theorem Wa:bI Tryz.prog Tryz.f127 Ml:=e (by kernel_rfl)
theorem Sa:bG Tryz.prog 127:=e (by kernel_rfl)
def E5:=[b 2 0,o 4 (.mv (.c (.nils 1))),bd 5 0]
def E6:=[ay 11 7 2,o 12 (.call 66 [.t 11]),m 6 12]
def wL:=[m 13 6,o 14 (.bin .neq (.t 13) (aj 0))]
def E7:=[m 15 6,o 4 (.mv (.c (.nils 1))),m 5 15]
def E8:=[m 16 1,o 17 (.len (.t 16)),o 18 (.bin .gtr (.t 17) (aj 60))]
def E9:=[o 4 (.mv (.c (.nils 1))),bd 5 2]
def Fa:=[f 19 2 6 2,l 20 19,o 21 (.call 167 [.t 20]),m 7 21]
def wM:=[m 22 1,o 23 (.len (.t 22)),bd 24 0]
def wN:=[lt 25 24 23]
def wO:=[o 26 (.is 6 (.t 22) (.t 24)),ay 27 6 26,o 9 (.alloc (.agg [.int .i64 0,.int .i64 0,.int .i64 0,.int .i64 0,.int .i64 0,.int .i64 0])),p (.bu (some 6) (.t 9) (.t 27))]
def wH:=[ay 28 6 9,o 29 (.call 157 [.t 28]),m 10 29]
def s8:=[m 30 10,o 31 (.bin .neq (.t 30) (aj 0))]
def wI:=[m 32 10,o 4 (.mv (.c (.nils 1))),m 5 32]
def wJ:=[f 33 0 0 2,ay 34 5 33,f 35 1 5 2,l 36 35,m 37 7,o 38 (.bld [.agg [.int .i64 0,.int .i64 0,.int .i64 0,.int .i64 0,.int .i64 0],.int .i64 0,.nils 7] [(0,(.t 34)),(1,(.t 36)),(2,(.t 37))]),ay 39 6 9,o 40 (.call 168 [.t 38,.t 39]),m 7 40]
def s9:=[ad 41 24 1,m 24 41]
def wK:=[m 42 7,o 43 (.call 169 [.t 42]),m 4 43,bd 5 0]
def Bf:aM:=(s (r E5) (s (s (r E6) (s (r wL) (.cond (.t 14) (s (r E7) .ret) .skip))) (s (s (r E8) (.cond (.t 18) (s (r E9) .ret) .skip)) (s (r Fa) (s (s (r wM) (.block 0 (.loop (s (r wN) (s (.cond (.t 25) .skip (.exit 0)) (s (.block 1 (s (r wO) (s (s (r wH) (s (r s8) (.cond (.t 31) (s (r wI) .ret) .skip))) (r wJ)))) (r s9))))))) (s (r wK) .ret))))))
def Mm:List bg:=[.tmp 4,.tmp 5]
theorem T6:bH Tryz.prog Tryz.f128 Bf:=e (by kernel_rfl)
theorem Wb:bI Tryz.prog Tryz.f128 Mm:=e (by kernel_rfl)
theorem Sb:bG Tryz.prog 128:=e (by kernel_rfl)
def Fb:=[b 3 0,b 4 1,b 5 2,bd 6 0]
def Fc:=[bd 7 0]
def Fe:=[bd 8 0]
def Ff:=[m 9 8,o 10 (.bin .lss (.t 9) (aj 6))]
def Fg:=[m 13 8,o 14 (.ia 6 1 (.t 4) (.t 13)),l 15 14,o 16 (.ia 5 1 (.t 3) (.t 15)),l 17 16,m 18 8,o 19 (.ia 6 1 (.t 5) (.t 18)),l 20 19,o 21 (.ia 5 1 (.t 3) (.t 20)),l 22 21,o 23 (.bin .and (.t 17) (.t 22)),o 24 (.bin .eql (.t 23) (aj 0))]
def XU:=some [[],[0],[1],[2],[3],[],[5],[6],[7],[8],[4,9],[10]]
def Fh:=[m 25 7,ad 26 25 1,m 7 26]
def wP:=[m 11 8,ad 12 11 1,m 8 12]
def Fi:=[m 27 7,m 6 27]
def Bg:aM:=(s (r Fb) (s (r Fc) (s (s (r Fe) (.block 0 (.loop (s (s (r Ff) (.cond (.t 10) .skip (.exit 0))) (s (.block 1 (s (.bW XU Fg) (.cond (.t 24) (r Fh) .skip))) (r wP)))))) (s (r Fi) .ret))))
def Mn:List bg:=[.tmp 6]
theorem T7:bH Tryz.prog Tryz.f129 Bg:=e (by kernel_rfl)
theorem Wc:bI Tryz.prog Tryz.f129 Mn:=e (by kernel_rfl)
theorem Sc:bG Tryz.prog 129:=e (by kernel_rfl)
def aaQ:=[bd 4 0]
def aaR:=[m 6 0,o 7 (.len (.t 6)),bd 8 0]
def aaS:=[lt 9 8 7]
def aaT:=[m 10 8,m 5 10]
def aaU:=[m 11 1,m 12 0,m 13 5,o 14 (.is 1 (.t 12) (.t 13)),l 15 14,o 16 (.bin .eql (.t 11) (.t 15))]
def aaV:=[m 17 5,m 4 17]
def aaW:=[ad 18 8 1,m 8 18]
def aaX:=[bd 4 (-1)]
def Bh:aM:=(s (r aaQ) (s (s (r aaR) (.block 0 (.loop (s (r aaS) (s (.cond (.t 9) .skip (.exit 0)) (s (.block 1 (s (r aaT) (s (r aaU) (.cond (.t 16) (s (r aaV) .ret) .skip)))) (r aaW))))))) (s (r aaX) .ret)))
def Mo:List bg:=[.tmp 4]
theorem T8:bH Tryz.prog Tryz.f131 Bh:=e (by kernel_rfl)
theorem Wd:bI Tryz.prog Tryz.f131 Mo:=e (by kernel_rfl)
theorem Sd:bG Tryz.prog 131:=e (by kernel_rfl)
def aaY:=[o 2 (.alloc (.agg [.int .i64 0,.int .i64 0,.int .i64 0,.int .i64 0,.int .i64 0,.int .i64 0,.int .i64 0,.int .i64 0]))]
def aaZ:=[bd 3 0]
def aa0:=[m 4 0,o 5 (.nilC (.t 4)),f 6 0 0 5,f 7 7 7 6,l 8 7]
def aa1:=[bd 3 1]
def aa2:=[m 9 0,o 10 (.nilC (.t 9)),f 11 0 0 10,f 12 0 0 11,l 13 12,m 14 0,o 15 (.nilC (.t 14)),f 16 0 0 15,f 17 1 1 16,l 18 17,m 19 0,o 20 (.nilC (.t 19)),f 21 0 0 20,f 22 2 2 21,l 23 22,m 24 0,o 25 (.nilC (.t 24)),f 26 0 0 25,f 27 3 3 26,l 28 27,m 29 0,o 30 (.nilC (.t 29)),f 31 0 0 30,f 32 4 4 31,l 33 32,m 34 0,o 35 (.nilC (.t 34)),f 36 0 0 35,f 37 5 5 36,l 38 37,m 39 0,o 40 (.nilC (.t 39)),f 41 0 0 40,f 42 6 6 41,l 43 42,m 44 3,o 45 (.bld [.int .i64 0,.int .i64 0,.int .i64 0,.int .i64 0,.int .i64 0,.int .i64 0,.int .i64 0,.int .i64 0] [(0,(.t 13)),(1,(.t 18)),(2,(.t 23)),(3,(.t 28)),(4,(.t 33)),(5,(.t 38)),(6,(.t 43)),(7,(.t 44))]),p (.bu (some 8) (.t 2) (.t 45))]
def XV:=some [[],[0],[1],[2],[3],[],[5],[6],[7],[8],[],[10],[11],[12],[13],[],[15],[16],[17],[18],[],[20],[21],[22],[23],[],[25],[26],[27],[28],[],[30],[31],[32],[33],[],[4,9,14,19,24,29,34,35],[36,0,1,2,3,4,5,6,7,8,9,10,11,12,13,14,15,16,17,18,19,20,21,22,23,24,25,26,27,28,29,30,31,32,33,34,35,36]]
def Bi:aM:=(s (r aaY) (s (r aaZ) (s (s (r aa0) (.cond (.t 8) (r aa1) .skip)) (s (.bW XV aa2) .ret))))
def Mp:List bg:=[.cell 2 (some 8)]
theorem T9:bH Tryz.prog Tryz.f133 Bi:=e (by kernel_rfl)
theorem We:bI Tryz.prog Tryz.f133 Mp:=e (by kernel_rfl)
theorem Se:bG Tryz.prog 133:=e (by kernel_rfl)
def aa3:=[o 4 (.mv bt)]
def aa4:=[m 6 0,o 7 (.len (.t 6)),m 8 1,o 9 (.len (.t 8)),o 10 (.bin .neq (.t 7) (.t 9))]
def aa5:=[o 4 (.mv bt)]
def aa6:=[m 11 0,o 12 (.len (.t 11)),bd 13 0]
def aa7:=[lt 14 13 12]
def aa8:=[m 15 13,m 5 15]
def aa9:=[m 16 0,m 17 5,o 18 (.is 1 (.t 16) (.t 17)),l 19 18,m 20 1,m 21 5,o 22 (.is 1 (.t 20) (.t 21)),l 23 22,o 24 (.bin .neq (.t 19) (.t 23))]
def XW:=some [[],[],[0,1],[2],[],[],[4,5],[6],[3,7]]
def aba:=[o 4 (.mv bt)]
def abb:=[ad 25 13 1,m 13 25]
def abc:=[o 4 (.mv T)]
def Bj:aM:=(s (r aa3) (s (s (r aa4) (.cond (.t 10) (s (r aa5) .ret) .skip)) (s (s (r aa6) (.block 0 (.loop (s (r aa7) (s (.cond (.t 14) .skip (.exit 0)) (s (.block 1 (s (r aa8) (s (.bW XW aa9) (.cond (.t 24) (s (r aba) .ret) .skip)))) (r abb))))))) (s (r abc) .ret))))
def Mq:List bg:=[.tmp 4]
theorem Ua:bH Tryz.prog Tryz.f134 Bj:=e (by kernel_rfl)
theorem Wf:bI Tryz.prog Tryz.f134 Mq:=e (by kernel_rfl)
theorem Sf:bG Tryz.prog 134:=e (by kernel_rfl)
def Fj:=[o 6 (.mv (.c (.nils 17)))]
def Fk:=[m 8 0,m 9 1,m 10 2,m 11 0,o 12 (.len (.t 11)),o 13 (.sl 17 (.t 8) (some (.t 9)) (some (.t 10)) (some (.t 12)))]
def Fl:=[m 14 1,m 15 2,o 16 (.bin .eql (.t 14) (.t 15))]
def abd:=[m 17 0,m 6 17]
def Fm:=[m 18 0,o 19 (.len (.t 18)),m 7 19]
def wQ:=[m 20 0,m 21 1,o 22 (.sl 17 (.t 20) none (some (.t 21)) none),m 23 0,m 24 2,o 25 (.sl 17 (.t 23) (some (.t 24)) none none),o 26 (.dC 68 17 136 (.agg [.agg [.int .i64 0,.int .i64 0],.int .i64 0,.int .i64 0,.int .i64 0,.int .i64 0,.int .i64 0,.int .i64 0,.int .i64 0,.agg [.int .i64 0,.int .i64 0,.int .i64 0,.int .i64 0,.int .i64 0,.int .i64 0],.agg [.int .i64 0,.int .i64 0]]) (.t 22) (.t 25)),m 0 26]
def XX:=some [[],[],[0,1],[],[],[3,4],[2,5],[6,6,0,1,2,3,4,5,6]]
def wR:=[m 27 0,m 28 0,o 29 (.len (.t 28)),m 30 7,o 31 (.sl 17 (.t 27) (some (.t 29)) (some (.t 30)) none),p (.ju 17 (.agg [.agg [.int .i64 0,.int .i64 0],.int .i64 0,.int .i64 0,.int .i64 0,.int .i64 0,.int .i64 0,.int .i64 0,.int .i64 0,.agg [.int .i64 0,.int .i64 0,.int .i64 0,.int .i64 0,.int .i64 0,.int .i64 0],.agg [.int .i64 0,.int .i64 0]]) (.t 31))]
def wS:=[m 32 0,m 6 32]
def Bk:aM:=(s (r Fj) (s (r Fk) (s (s (r Fl) (.cond (.t 16) (s (r abd) .ret) .skip)) (s (r Fm) (s (.bW XX wQ) (s (r wR) (s (r wS) .ret)))))))
def Mr:List bg:=[.tmp 6]
theorem Ub:bH Tryz.prog Tryz.f135 Bk:=e (by kernel_rfl)
theorem Wg:bI Tryz.prog Tryz.f135 Mr:=e (by kernel_rfl)
theorem Sg:bG Tryz.prog 135:=e (by kernel_rfl)
def Fo:=[o 2 (.mv (.c (.nils 17)))]
def wT:=[m 3 0,o 4 (.nilS false (.t 3))]
def Fp:=[o 2 (.mv (.c (.nils 17)))]
def wU:=[o 5 (.bs0 17),m 6 0,o 7 (.dC 68 17 136 (.agg [.agg [.int .i64 0,.int .i64 0],.int .i64 0,.int .i64 0,.int .i64 0,.int .i64 0,.int .i64 0,.int .i64 0,.int .i64 0,.agg [.int .i64 0,.int .i64 0,.int .i64 0,.int .i64 0,.int .i64 0,.int .i64 0],.agg [.int .i64 0,.int .i64 0]]) (.t 5) (.t 6)),m 2 7]
def Bl:aM:=(s (r Fo) (s (s (r wT) (.cond (.t 4) (s (r Fp) .ret) .skip)) (s (r wU) .ret)))
def Ms:List bg:=[.tmp 2]
theorem Uc:bH Tryz.prog Tryz.f136 Bl:=e (by kernel_rfl)
theorem Wh:bI Tryz.prog Tryz.f136 Ms:=e (by kernel_rfl)
theorem Sh:bG Tryz.prog 136:=e (by kernel_rfl)
def Fq:=[m 4 0,m 5 0,o 6 (.len (.t 5)),m 7 1,o 8 (.call 171 [.t 4,.t 6,.t 7])]
def vy:aM:=(r Fq)
def za:List bg:=[]
theorem CW:bH Tryz.prog Tryz.f137 vy:=e (by kernel_rfl)
theorem C8:bI Tryz.prog Tryz.f137 za:=e (by kernel_rfl)
theorem CN:bG Tryz.prog 137:=e (by kernel_rfl)
def abe:=[bd 5 0]
def abf:=[l 6 2,m 7 0,o 8 (.is 17 (.t 6) (.t 7)),f 9 2 3 8,l 10 9,l 11 2,m 12 1,o 13 (.is 17 (.t 11) (.t 12)),f 14 2 3 13,l 15 14,o 16 (.bin .sub (.t 10) (.t 15)),m 5 16]
def XY:=some [[],[],[0,1],[2],[3],[],[],[5,6],[7],[8],[4,9],[10,0,1,2,3,4,5,6,7,8,9,10]]
def Bm:aM:=(s (r abe) (s (.bW XY abf) .ret))
def Mt:List bg:=[.tmp 5]
theorem Ud:bH Tryz.prog Tryz.f138 Bm:=e (by kernel_rfl)
theorem Wi:bI Tryz.prog Tryz.f138 Mt:=e (by kernel_rfl)
theorem Si:bG Tryz.prog 138:=e (by kernel_rfl)
def Fs:=[o 0 (.mv (.c (.raw (.map none))))]
def Ft:=[o 1 (.jX),p (.gQ (.i .i64) (.t 1) (aj 1) (.c (.func 172 []))),p (.gQ (.i .i64) (.t 1) (aj 2) (.c (.func 173 []))),p (.gQ (.i .i64) (.t 1) (aj 3) (.c (.func 174 []))),p (.gQ (.i .i64) (.t 1) (aj 4) (.c (.func 175 []))),p (.gQ (.i .i64) (.t 1) (aj 5) (.c (.func 176 []))),p (.gQ (.i .i64) (.t 1) (aj 6) (.c (.func 177 []))),m 2 1,m 0 2]
def Bn:aM:=(s (r Fs) (s (r Ft) .ret))
def Mu:List bg:=[.tmp 0]
theorem Ue:bH Tryz.prog Tryz.f139 Bn:=e (by kernel_rfl)
theorem Wj:bI Tryz.prog Tryz.f139 Mu:=e (by kernel_rfl)
theorem Sj:bG Tryz.prog 139:=e (by kernel_rfl)
def Fu:=[o 2 (.mv (.c (.nils 1)))]
def Fv:=[o 3 (.mv (.c (.nils 1)))]
def Fw:=[bd 4 0]
def Fx:=[m 5 4,o 6 (.bin .lss (.t 5) (aj 5))]
def Fy:=[m 9 0,m 10 4,o 11 (.bin .shl (aj 1) (.t 10)),o 12 (.bin .and (.t 9) (.t 11)),o 13 (.bin .neq (.t 12) (aj 0))]
def Fz:=[m 14 3,m 15 4,o 16 (.bs 1 [.t 15]),o 17 (.dC 3 1 8 (.int .i64 0) (.t 14) (.t 16)),m 3 17]
def wV:=[m 7 4,ad 8 7 1,m 4 8]
def FA:=[m 18 3,m 2 18]
def Bp:aM:=(s (r Fu) (s (r Fv) (s (s (r Fw) (.block 0 (.loop (s (s (r Fx) (.cond (.t 6) .skip (.exit 0))) (s (.block 1 (s (r Fy) (.cond (.t 13) (r Fz) .skip))) (r wV)))))) (s (r FA) .ret))))
def Mw:List bg:=[.tmp 2]
theorem Ug:bH Tryz.prog Tryz.f141 Bp:=e (by kernel_rfl)
theorem Wl:bI Tryz.prog Tryz.f141 Mw:=e (by kernel_rfl)
theorem Sl:bG Tryz.prog 141:=e (by kernel_rfl)
def abg:=[b 4 1,bd 6 0,o 7 (.mv bt)]
def abh:=[m 12 0,o 13 (.len (.t 12)),m 8 13]
def abi:=[m 14 8,bd 9 0,m 10 14]
def abj:=[m 15 9,m 16 10,lt 17 15 16]
def abk:=[m 18 9,m 19 10,o 20 (.bin .add (.t 18) (.t 19)),o 21 (.conv .u64 (.t 20)),o 22 (.bin .shr (.t 21) (.c (.int .u64 1))),o 23 (.conv .i64 (.t 22)),m 11 23]
def abl:=[m 24 2,m 25 0,m 26 11,o 27 (.is 17 (.t 25) (.t 26)),ay 28 17 27,ay 29 2 4,o 30 (.eD (.t 24) [.t 28,.t 29]),o 31 (.bin .lss (.t 30) (aj 0))]
def XZ:=some [[],[],[],[1,2],[3],[],[0,4,5],[6]]
def abm:=[m 32 11,ad 33 32 1,m 9 33]
def abn:=[m 34 11,m 10 34]
def abo:=[m 35 9,m 36 9,m 37 8,lt 38 36 37,m 39 38,c8 40 2 39,c8 41 0 39,c8 42 9 39,bQ 43 (.is 17 (.t 41) (.t 42)) 39,bQ 44 (.ld (some 17) (.t 43)) 39,bQ 45 (.ld (some 2) (.t 4)) 39,bQ 46 (.eD (.t 40) [.t 44,.t 45]) 39,bQ 47 (.bin .eql (.t 46) (aj 0)) 39,and 48 39 47,m 6 35,m 7 48]
def X0:=some [[],[],[],[1,2],[3],[4],[4],[4],[6,7,4],[8,4],[4],[5,9,10,4,4],[11,4],[4,12],[0,11,0],[13,14,0,1,2,3,4,5,6,7,8,9,10,11,12,13,14]]
def Bq:aM:=(s (r abg) (s (r abh) (s (r abi) (s (.block 0 (.loop (s (s (r abj) (.cond (.t 17) .skip (.exit 0))) (.block 1 (s (r abk) (s (.bW XZ abl) (.cond (.t 31) (r abm) (r abn)))))))) (s (.bW X0 abo) .ret)))))
def Mx:List bg:=[.tmp 6,.tmp 7]
theorem Uh:bH Tryz.prog Tryz.f142 Bq:=e (by kernel_rfl)
theorem Wm:bI Tryz.prog Tryz.f142 Mx:=e (by kernel_rfl)
theorem Sm:bG Tryz.prog 142:=e (by kernel_rfl)
def abp:=[b 2 0,b 3 1,bd 4 0]
def abq:=[f 5 0 0 2,ay 6 2 5,ay 7 2 3,o 8 (.call 118 [.t 6,.t 7]),m 4 8]
def Br:aM:=(s (r abp) (s (r abq) .ret))
def My:List bg:=[.tmp 4]
theorem Ui:bH Tryz.prog Tryz.f143 Br:=e (by kernel_rfl)
theorem Wn:bI Tryz.prog Tryz.f143 My:=e (by kernel_rfl)
theorem Sn:bG Tryz.prog 143:=e (by kernel_rfl)
def abr:=[b 1 0,o 2 (.mv (.c (.dh)))]
def abt:=[o 3 (.mk 178 [.t 1]),m 2 3]
def Bt:aM:=(s (r abr) (s (r abt) .ret))
def Mz:List bg:=[.tmp 2]
theorem Uj:bH Tryz.prog Tryz.f145 Bt:=e (by kernel_rfl)
theorem Wo:bI Tryz.prog Tryz.f145 Mz:=e (by kernel_rfl)
theorem Sp:bG Tryz.prog 145:=e (by kernel_rfl)
def FB:=[l 5 1,o 6 (.len (.t 5)),bd 7 0]
def FC:=[lt 8 7 6]
def FD:=[m 9 7,m 4 9]
def wW:=[l 10 2,m 11 4,o 12 (.is 1 (.t 10) (.t 11)),l 13 12,m 14 13,c8 15 0 14,c8 16 4 14,bQ 17 (.eD (.t 15) [.t 16]) 14,bQ 18 (.un .not (.t 17)) 14,and 19 14 18]
def wX:=[ad 20 7 1,m 7 20]
def Bu:aM:=(s (r FB) (.block 0 (.loop (s (r FC) (s (.cond (.t 8) .skip (.exit 0)) (s (.block 1 (s (r FD) (s (r wW) (.cond (.t 19) .ret .skip)))) (r wX)))))))
def MA:List bg:=[]
theorem Uk:bH Tryz.prog Tryz.f146 Bu:=e (by kernel_rfl)
theorem Wp:bI Tryz.prog Tryz.f146 MA:=e (by kernel_rfl)
theorem CO:bG Tryz.prog 146:=e (by kernel_rfl)
def ta:=[o 6 (.mv (.c (.nils 17)))]
def tc:=[m 10 0,m 11 1,o 12 (.sl 17 (.t 10) (some (.t 11)) none none)]
def td:=[m 13 2,o 14 (.len (.t 13)),m 7 14]
def te:=[m 15 7,o 16 (.bin .eql (.t 15) (aj 0))]
def abI:=[m 17 0,m 6 17]
def tf:=[m 18 0,o 19 (.len (.t 18)),m 8 19]
def tg:=[m 20 1,m 21 8,o 22 (.bin .eql (.t 20) (.t 21))]
def re:=[m 23 0,m 24 2,o 25 (.dC 68 17 136 (.agg [.agg [.int .i64 0,.int .i64 0],.int .i64 0,.int .i64 0,.int .i64 0,.int .i64 0,.int .i64 0,.int .i64 0,.int .i64 0,.agg [.int .i64 0,.int .i64 0,.int .i64 0,.int .i64 0,.int .i64 0,.int .i64 0],.agg [.int .i64 0,.int .i64 0]]) (.t 23) (.t 24)),m 6 25]
def FM:=[m 26 8,m 27 7,o 28 (.bin .add (.t 26) (.t 27)),m 29 0,o 30 (.cap (.t 29)),o 31 (.bin .gtr (.t 28) (.t 30))]
def FN:=[m 32 0,m 33 1,o 34 (.sl 17 (.t 32) none (some (.t 33)) none),m 35 8,m 36 7,o 37 (.bin .add (.t 35) (.t 36)),m 38 1,o 39 (.bin .sub (.t 37) (.t 38)),o 40 (.kL 68 17 136 (.agg [.agg [.int .i64 0,.int .i64 0],.int .i64 0,.int .i64 0,.int .i64 0,.int .i64 0,.int .i64 0,.int .i64 0,.int .i64 0,.agg [.int .i64 0,.int .i64 0,.int .i64 0,.int .i64 0,.int .i64 0,.int .i64 0],.agg [.int .i64 0,.int .i64 0]]) (.t 34) (.t 39)),m 9 40]
def FE:=[m 41 9,m 42 1,o 43 (.sl 17 (.t 41) (some (.t 42)) none none),m 44 2,o 45 (.iI 17 (.t 43) (.t 44))]
def FF:=[m 46 9,m 47 1,m 48 7,o 49 (.bin .add (.t 47) (.t 48)),o 50 (.sl 17 (.t 46) (some (.t 49)) none none),m 51 0,m 52 1,o 53 (.sl 17 (.t 51) (some (.t 52)) none none),o 54 (.iI 17 (.t 50) (.t 53))]
def X1:=some [[],[],[],[1,2],[0,3],[],[],[5,6],[4,7]]
def FG:=[m 55 9,m 6 55]
def FH:=[m 56 0,m 57 8,m 58 7,o 59 (.bin .add (.t 57) (.t 58)),o 60 (.sl 17 (.t 56) none (some (.t 59)) none),m 0 60]
def FI:=[m 61 2,m 62 0,m 63 1,m 64 7,o 65 (.bin .add (.t 63) (.t 64)),o 66 (.sl 17 (.t 62) (some (.t 65)) none none),o 67 (.jq 191 [.t 61,.t 66]),no 68 67]
def FJ:=[m 69 0,m 70 1,m 71 7,o 72 (.bin .add (.t 70) (.t 71)),o 73 (.sl 17 (.t 69) (some (.t 72)) none none),m 74 0,m 75 1,o 76 (.sl 17 (.t 74) (some (.t 75)) none none),o 77 (.iI 17 (.t 73) (.t 76))]
def X2:=some [[],[],[],[1,2],[0,3],[],[],[5,6],[4,7]]
def FK:=[m 78 0,m 79 1,o 80 (.sl 17 (.t 78) (some (.t 79)) none none),m 81 2,o 82 (.iI 17 (.t 80) (.t 81))]
def FL:=[m 83 0,m 6 83]
def abF:=[m 84 0,m 85 8,o 86 (.sl 17 (.t 84) (some (.t 85)) none none),m 87 2,o 88 (.iI 17 (.t 86) (.t 87))]
def abG:=[m 89 0,m 90 1,o 91 (.sl 17 (.t 89) (some (.t 90)) none none),m 92 7,o 93 (.call 192 [.t 91,.t 92])]
def abH:=[m 94 0,m 6 94]
def sJ:aM:=(s (r ta) (s (r tc) (s (r td) (s (s (r te) (.cond (.t 16) (s (r abI) .ret) .skip)) (s (r tf) (s (s (r tg) (.cond (.t 22) (s (r re) .ret) .skip)) (s (s (r FM) (.cond (.t 31) (s (r FN) (s (r FE) (s (.bW X1 FF) (s (r FG) .ret)))) .skip)) (s (r FH) (s (s (r FI) (.cond (.t 68) (s (.bW X2 FJ) (s (r FK) (s (r FL) .ret))) .skip)) (s (r abF) (s (r abG) (s (r abH) .ret))))))))))))
def uu:List bg:=[.tmp 6]
theorem vH:bH Tryz.prog Tryz.f153 sJ:=e (by kernel_rfl)
theorem vT:bI Tryz.prog Tryz.f153 uu:=e (by kernel_rfl)
theorem vE:bG Tryz.prog 153:=e (by kernel_rfl)
def FO:=[o 2 (.mv bt)]
def FP:=[m 3 0,o 4 (.call 114 [.t 3,(aj 1),(aj 9999)]),m 2 4]
def Bv:aM:=(s (r FO) (s (r FP) .ret))
def MB:List bg:=[.tmp 2]
theorem Ul:bH Tryz.prog Tryz.f154 Bv:=e (by kernel_rfl)
theorem Wq:bI Tryz.prog Tryz.f154 MB:=e (by kernel_rfl)
theorem Sq:bG Tryz.prog 154:=e (by kernel_rfl)
def FQ:=[o 2 (.mv bt)]
def FR:=[m 3 0,o 4 (.call 114 [.t 3,(aj 1),(aj 9)]),m 2 4]
def Bw:aM:=(s (r FQ) (s (r FR) .ret))
def MC:List bg:=[.tmp 2]
theorem Um:bH Tryz.prog Tryz.f155 Bw:=e (by kernel_rfl)
theorem Wr:bI Tryz.prog Tryz.f155 MC:=e (by kernel_rfl)
theorem Sr:bG Tryz.prog 155:=e (by kernel_rfl)
def FT:=[o 2 (.mv bt)]
def FU:=[m 3 0,o 4 (.call 114 [.t 3,(aj 1),(aj 99)]),m 2 4]
def Bx:aM:=(s (r FT) (s (r FU) .ret))
def MD:List bg:=[.tmp 2]
theorem Un:bH Tryz.prog Tryz.f156 Bx:=e (by kernel_rfl)
theorem Ws:bI Tryz.prog Tryz.f156 MD:=e (by kernel_rfl)
theorem Ss:bG Tryz.prog 156:=e (by kernel_rfl)
def FV:=[b 1 0,bd 2 0]
def FW:=[ay 3 6 1,o 4 (.call 193 [.t 3]),no 5 4]
def FX:=[bd 2 12]
def FY:=[bd 2 0]
def By:aM:=(s (r FV) (s (s (r FW) (.cond (.t 5) (s (r FX) .ret) .skip)) (s (r FY) .ret)))
def ME:List bg:=[.tmp 2]
theorem Uo:bH Tryz.prog Tryz.f157 By:=e (by kernel_rfl)
theorem Wt:bI Tryz.prog Tryz.f157 ME:=e (by kernel_rfl)
theorem St:bG Tryz.prog 157:=e (by kernel_rfl)
def FZ:=[bd 2 0]
def F0:=[bd 3 0]
def F1:=[m 6 0,o 7 (.len (.t 6)),bd 8 0]
def F2:=[lt 9 8 7]
def F3:=[o 10 (.is 1 (.t 6) (.t 8)),l 11 10,m 5 11]
def F4:=[m 12 5,m 13 3,o 14 (.bin .neq (.t 12) (.t 13))]
def F5:=[m 15 5,m 2 15]
def F6:=[ad 16 8 1,m 8 16]
def F7:=[m 17 3,m 2 17]
def Bz:aM:=(s (r FZ) (s (r F0) (s (s (r F1) (.block 0 (.loop (s (r F2) (s (.cond (.t 9) .skip (.exit 0)) (s (.block 1 (s (r F3) (s (r F4) (.cond (.t 14) (s (r F5) .ret) .skip)))) (r F6))))))) (s (r F7) .ret))))
def MF:List bg:=[.tmp 2]
theorem Up:bH Tryz.prog Tryz.f158 Bz:=e (by kernel_rfl)
theorem Wu:bI Tryz.prog Tryz.f158 MF:=e (by kernel_rfl)
theorem Su:bG Tryz.prog 158:=e (by kernel_rfl)
def F8:=[bd 4 0]
def F9:=[m 7 0,o 8 (.call 194 [.t 7]),m 5 8]
def Ge:=[m 9 1,o 10 (.call 194 [.t 9]),m 6 10]
def Gf:=[m 11 5]
def abJ:=[m 12 6]
def abK:=[bd 4 0]
def abL:=[bd 4 (-1)]
def Gg:=[m 13 6]
def abM:=[bd 4 1]
def Gh:=[m 14 0,m 15 1,lt 16 14 15]
def Ga:=[bd 4 (-1)]
def Gb:=[m 17 0,m 18 1,o 19 (.bin .gtr (.t 17) (.t 18))]
def Gc:=[bd 4 1]
def Gd:=[bd 4 0]
def BA:aM:=(s (r F8) (s (r F9) (s (r Ge) (s (s (r Gf) (.cond (.t 11) (s (s (r abJ) (.cond (.t 12) (s (r abK) .ret) .skip)) (s (r abL) .ret)) .skip)) (s (s (r Gg) (.cond (.t 13) (s (r abM) .ret) .skip)) (s (s (r Gh) (.cond (.t 16) (s (r Ga) .ret) .skip)) (s (s (r Gb) (.cond (.t 19) (s (r Gc) .ret) .skip)) (s (r Gd) .ret))))))))
def MG:List bg:=[.tmp 4]
theorem Uq:bH Tryz.prog Tryz.f159 BA:=e (by kernel_rfl)
theorem Wv:bI Tryz.prog Tryz.f159 MG:=e (by kernel_rfl)
theorem Sv:bG Tryz.prog 159:=e (by kernel_rfl)
def Gi:=[o 2 (.mv bt)]
def Gj:=[m 3 0,o 4 (.call 121 [.t 3,(aj 0),(aj 31)]),m 2 4]
def BC:aM:=(s (r Gi) (s (r Gj) .ret))
def MI:List bg:=[.tmp 2]
theorem Us:bH Tryz.prog Tryz.f160 BC:=e (by kernel_rfl)
theorem Wx:bI Tryz.prog Tryz.f160 MI:=e (by kernel_rfl)
theorem Sx:bG Tryz.prog 160:=e (by kernel_rfl)
def Gk:=[o 4 (.mv bt)]
def Gl:=[m 5 0,m 6 1,o 7 (.bin .shr (.t 5) (.t 6)),o 8 (.bin .and (.t 7) (aj 1)),o 9 (.bin .eql (.t 8) (aj 1)),m 4 9]
def BD:aM:=(s (r Gk) (s (r Gl) .ret))
def MJ:List bg:=[.tmp 4]
theorem Ut:bH Tryz.prog Tryz.f161 BD:=e (by kernel_rfl)
theorem Wy:bI Tryz.prog Tryz.f161 MJ:=e (by kernel_rfl)
theorem Sy:bG Tryz.prog 161:=e (by kernel_rfl)
def Gm:=[o 2 (.mv bt)]
def Gn:=[m 3 0,o 4 (.call 121 [.t 3,(aj 0),(aj 4)]),no 5 4,m 2 5]
def BE:aM:=(s (r Gm) (s (r Gn) .ret))
def MK:List bg:=[.tmp 2]
theorem Uu:bH Tryz.prog Tryz.f162 BE:=e (by kernel_rfl)
theorem Wz:bI Tryz.prog Tryz.f162 MK:=e (by kernel_rfl)
theorem Sz:bG Tryz.prog 162:=e (by kernel_rfl)
def Gp:=[o 4 (.mv bt)]
def Gq:=[m 5 0,m 6 1,o 7 (.call 195 [.t 5,.t 6]),o 8 (.bin .geq (.t 7) (aj 0)),m 4 8]
def BF:aM:=(s (r Gp) (s (r Gq) .ret))
def ML:List bg:=[.tmp 4]
theorem Uv:bH Tryz.prog Tryz.f163 BF:=e (by kernel_rfl)
theorem WA:bI Tryz.prog Tryz.f163 ML:=e (by kernel_rfl)
theorem SA:bG Tryz.prog 163:=e (by kernel_rfl)
def Gr:=[b 3 0,o 4 (.mv bt)]
def Gs:=[f 5 0 0 1,ay 6 5 5,f 7 1 1 3,ay 8 6 7,ay 9 6 2,o 10 (.call 165 [.t 6,.t 8,.t 9]),f 11 1 5 1,l 12 11,o 13 (.bin .mul (aj 2) (.t 12)),o 14 (.bin .leq (.t 10) (.t 13)),m 4 14]
def X3:=some [[],[0],[],[2],[],[1,3,4],[],[6],[7],[5,8],[9,5,0,1,2,3,4,5,6,7,8,9]]
def BG:aM:=(s (r Gr) (s (.bW X3 Gs) .ret))
def MN:List bg:=[.tmp 4]
theorem Uw:bH Tryz.prog Tryz.f164 BG:=e (by kernel_rfl)
theorem WB:bI Tryz.prog Tryz.f164 MN:=e (by kernel_rfl)
theorem SB:bG Tryz.prog 164:=e (by kernel_rfl)
def Gt:=[b 3 0,b 4 1,b 5 2,bd 6 0]
def Gu:=[o 7 (.alloc (.dh)),p (.bu none (.t 7) (.c (.func 196 [])))]
def Gv:=[o 8 (.mk 198 [.t 7,.t 3,.t 4,.t 5]),o 9 (.call 197 [.t 8]),m 6 9]
def BH:aM:=(s (r Gt) (s (r Gu) (s (r Gv) .ret)))
def MO:List bg:=[.tmp 6]
theorem Ux:bH Tryz.prog Tryz.f165 BH:=e (by kernel_rfl)
theorem WC:bI Tryz.prog Tryz.f165 MO:=e (by kernel_rfl)
theorem SC:bG Tryz.prog 165:=e (by kernel_rfl)
def Gw:=[bd 4 0]
def Gx:=[m 6 0,o 7 (.len (.t 6)),bd 8 0]
def Gy:=[lt 9 8 7]
def Gz:=[m 10 8,m 5 10]
def GA:=[m 11 1,m 12 0,m 13 5,o 14 (.is 1 (.t 12) (.t 13)),l 15 14,o 16 (.eD (.t 11) [.t 15])]
def GB:=[m 17 5,m 4 17]
def GC:=[ad 18 8 1,m 8 18]
def GD:=[bd 4 (-1)]
def BI:aM:=(s (r Gw) (s (s (r Gx) (.block 0 (.loop (s (r Gy) (s (.cond (.t 9) .skip (.exit 0)) (s (.block 1 (s (r Gz) (s (r GA) (.cond (.t 16) (s (r GB) .ret) .skip)))) (r GC))))))) (s (r GD) .ret)))
def MP:List bg:=[.tmp 4]
theorem Uy:bH Tryz.prog Tryz.f166 BI:=e (by kernel_rfl)
theorem WD:bI Tryz.prog Tryz.f166 MP:=e (by kernel_rfl)
theorem SD:bG Tryz.prog 166:=e (by kernel_rfl)
def GF:=[o 2 (.mv (.c (.nils 7)))]
def wY:=[m 3 0,o 4 (.nilS false (.t 3))]
def GG:=[o 2 (.mv (.c (.nils 7)))]
def wZ:=[o 5 (.bs0 7),m 6 0,o 7 (.dC 63 7 56 (.agg [.int .i64 0,.agg [.int .i64 0,.int .i64 0,.int .i64 0,.int .i64 0,.int .i64 0,.int .i64 0]]) (.t 5) (.t 6)),m 2 7]
def BJ:aM:=(s (r GF) (s (s (r wY) (.cond (.t 4) (s (r GG) .ret) .skip)) (s (r wZ) .ret)))
def MQ:List bg:=[.tmp 2]
theorem Uz:bH Tryz.prog Tryz.f167 BJ:=e (by kernel_rfl)
theorem WE:bI Tryz.prog Tryz.f167 MQ:=e (by kernel_rfl)
theorem SE:bG Tryz.prog 167:=e (by kernel_rfl)
def GH:=[b 2 0,b 3 1,o 4 (.mv (.c (.nils 7)))]
def GI:=[f 5 2 6 2,l 6 5,o 7 (.call 167 [.t 6]),o 8 (.mk 201 [.t 2,.t 3]),o 9 (.call 200 [.t 7,.t 8]),m 4 9]
def BK:aM:=(s (r GH) (s (r GI) .ret))
def MR:List bg:=[.tmp 4]
theorem UA:bH Tryz.prog Tryz.f168 BK:=e (by kernel_rfl)
theorem WG:bI Tryz.prog Tryz.f168 MR:=e (by kernel_rfl)
theorem SF:bG Tryz.prog 168:=e (by kernel_rfl)
def GJ:=[o 2 (.mv (.c (.nils 1)))]
def GK:=[o 3 (.mv (.c (.nils 1)))]
def GL:=[m 6 0,o 7 (.len (.t 6)),bd 8 0]
def GM:=[lt 9 8 7]
def GN:=[o 10 (.is 7 (.t 6) (.t 8)),ay 11 7 10,o 5 (.alloc (.agg [.int .i64 0,.agg [.int .i64 0,.int .i64 0,.int .i64 0,.int .i64 0,.int .i64 0,.int .i64 0]])),p (.bu (some 7) (.t 5) (.t 11))]
def GO:=[m 12 3,f 13 0 0 5,l 14 13,o 15 (.bs 1 [.t 14]),o 16 (.dC 3 1 8 (.int .i64 0) (.t 12) (.t 15)),m 3 16]
def GP:=[ad 17 8 1,m 8 17]
def GQ:=[m 18 3,m 2 18]
def BL:aM:=(s (r GJ) (s (r GK) (s (s (r GL) (.block 0 (.loop (s (r GM) (s (.cond (.t 9) .skip (.exit 0)) (s (.block 1 (s (r GN) (r GO))) (r GP))))))) (s (r GQ) .ret))))
def MS:List bg:=[.tmp 2]
theorem UB:bH Tryz.prog Tryz.f169 BL:=e (by kernel_rfl)
theorem WH:bI Tryz.prog Tryz.f169 MS:=e (by kernel_rfl)
theorem SG:bG Tryz.prog 169:=e (by kernel_rfl)
def w0:=[bd 6 20]
def xa:=[m 10 6,bd 7 0,m 8 10]
def GR:=[m 11 8,m 12 1,o 13 (.bin .leq (.t 11) (.t 12))]
def ab2:=[m 14 0,m 15 7,m 16 8,m 17 2,o 18 (.call 203 [.t 14,.t 15,.t 16,.t 17])]
def ab3:=[m 19 8,m 7 19]
def ab4:=[m 20 8,m 21 6,o 22 (.bin .add (.t 20) (.t 21)),m 8 22]
def GS:=[m 23 0,m 24 7,m 25 1,m 26 2,o 27 (.call 203 [.t 23,.t 24,.t 25,.t 26])]
def xb:=[m 28 6,m 29 1,lt 30 28 29]
def GU:=[m 31 6,o 32 (.bin .mul (aj 2) (.t 31)),bd 7 0,m 8 32]
def GV:=[m 33 8,m 34 1,o 35 (.bin .leq (.t 33) (.t 34))]
def abV:=[m 36 0,m 37 7,m 38 7,m 39 6,o 40 (.bin .add (.t 38) (.t 39)),m 41 8,m 42 2,o 43 (.call 204 [.t 36,.t 37,.t 40,.t 41,.t 42])]
def abW:=[m 44 8,m 7 44]
def abX:=[m 45 8,m 46 6,o 47 (.bin .mul (aj 2) (.t 46)),o 48 (.bin .add (.t 45) (.t 47)),m 8 48]
def abY:=[m 49 7,m 50 6,o 51 (.bin .add (.t 49) (.t 50)),m 9 51]
def abZ:=[m 52 9,m 53 1,lt 54 52 53]
def ab0:=[m 55 0,m 56 7,m 57 9,m 58 1,m 59 2,o 60 (.call 204 [.t 55,.t 56,.t 57,.t 58,.t 59])]
def ab1:=[m 61 6,o 62 (.bin .mul (.t 61) (aj 2)),m 6 62]
def vz:aM:=(s (r w0) (s (r xa) (s (.block 0 (.loop (s (s (r GR) (.cond (.t 13) .skip (.exit 0))) (.block 1 (s (r ab2) (s (r ab3) (r ab4))))))) (s (r GS) (.block 2 (.loop (s (s (r xb) (.cond (.t 30) .skip (.exit 2))) (.block 3 (s (r GU) (s (.block 4 (.loop (s (s (r GV) (.cond (.t 35) .skip (.exit 4))) (.block 5 (s (r abV) (s (r abW) (r abX))))))) (s (s (r abY) (s (r abZ) (.cond (.t 54) (r ab0) .skip))) (r ab1))))))))))))
def zb:List bg:=[]
theorem CX:bH Tryz.prog Tryz.f171 vz:=e (by kernel_rfl)
theorem C9:bI Tryz.prog Tryz.f171 zb:=e (by kernel_rfl)
theorem CP:bG Tryz.prog 171:=e (by kernel_rfl)
def ab5:=[b 3 1,o 4 (.mv bt)]
def ab6:=[f 6 5 6 3,l 7 6,o 8 (.bin .gtr (.t 7) (aj 0))]
def ab7:=[m 9 0,o 10 (.nilC (.t 9)),f 11 0 0 10,l 12 11,f 13 5 6 3,l 14 13,o 15 (.lk (.i .i64) (.nilp) false (.t 12) (.t 14)),m 5 15]
def X4:=some [[],[0],[1],[2],[],[4],[3,5],[6,0,1,2,3,4,5,6]]
def ab8:=[m 16 5,o 17 (.ptrE false (.t 16) (.c (.nilp))),m 18 17,eK 19 5 18,on 20 (.nilC (.t 19)) 18,fn 21 0 0 20 18,fn 22 1 1 21 18,mJ 23 22 18,fn 24 6 7 3 18,mJ 25 24 18,on 26 (.bin .neq (.t 23) (.t 25)) 18,or 27 18 26,m 28 27,eK 29 5 28,on 30 (.call 90 [.t 29]) 28,eK 31 30 28,c8 32 5 31,bQ 33 (.nilC (.t 32)) 31,dW 34 0 0 33 31,dW 35 6 6 34 31,eI 36 35 31,dW 37 2 3 3 31,eI 38 37 31,bQ 39 (.bin .lss (.t 36) (.t 38)) 31,on 40 (.pick (.t 31) (.t 39) bt) 28,or 41 28 40]
def X5:=some [[],[0],[1],[2],[3,2],[4,2],[5,2],[6,2],[2],[8,2],[7,9,2],[2,10],[11,2],[12],[13,12,12],[14,14,12],[15],[16,15],[17,15],[18,15],[19,15],[15],[21,15],[20,22,15],[15,23,12],[12,24]]
def ab9:=[o 4 (.mv bt)]
def aca:=[m 42 0,ay 43 17 3,o 44 (.call 173 [.t 42,.t 43]),m 4 44]
def BM:aM:=(s (r ab5) (s (s (r ab6) (.cond (.t 8) (s (.bW X4 ab7) (s (.bW X5 ab8) (.cond (.t 41) (s (r ab9) .ret) .skip))) .skip)) (s (r aca) .ret)))
def MT:List bg:=[.tmp 4]
theorem UC:bH Tryz.prog Tryz.f172 BM:=e (by kernel_rfl)
theorem WI:bI Tryz.prog Tryz.f172 MT:=e (by kernel_rfl)
theorem SH:bG Tryz.prog 172:=e (by kernel_rfl)
def acb:=[b 3 1,o 4 (.mv bt)]
def acd:=[m 5 0,o 6 (.nilC (.t 5)),f 7 0 0 6,l 8 7,f 9 4 5 3,l 10 9,o 11 (.lk (.i .i64) (.nilp) false (.t 8) (.t 10)),o 12 (.ptrE true (.t 11) (.c (.nilp)))]
def X6:=some [[],[0],[1],[2],[],[4],[3,5],[6]]
def ace:=[o 4 (.mv bt)]
def acf:=[m 13 0,o 14 (.nilC (.t 13)),f 15 0 0 14,l 16 15,f 17 4 5 3,l 18 17,f 19 4 5 3,l 20 19,f 21 6 7 3,l 22 21,f 23 5 6 3,l 24 23,f 25 7 8 3,l 26 25,f 27 7 8 3,l 28 27,f 29 2 3 3,l 30 29,o 31 (.bld [.int .i64 0,.int .i64 0,.int .i64 0,.int .i64 0,.int .i64 0,.int .i64 0,.int .i64 0,.bool false,.nils 6] [(0,(.t 20)),(1,(.t 22)),(2,(.t 24)),(3,(.t 26)),(4,(.t 28)),(5,(.t 30)),(6,(.c (.int .i64 (-1))))]),o 32 (.bld [.agg [.int .i64 0,.int .i64 0,.int .i64 0,.int .i64 0,.int .i64 0,.int .i64 0,.int .i64 0,.bool false,.nils 6]] [(0,(.t 31))]),b 33 32,p (.gQ (.i .i64) (.t 16) (.t 18) (.t 33))]
def X7:=some [[],[0],[1],[2],[],[4],[],[6],[],[8],[],[10],[],[12],[],[14],[],[16],[7,9,11,13,15,17],[18],[19],[3,5,20,0,1,2,3,4,5,6,7,8,9,10,11,12,13,14,15,16,17,18,19,20]]
def acg:=[o 4 (.mv T)]
def BN:aM:=(s (r acb) (s (s (.bW X6 acd) (.cond (.t 12) (s (r ace) .ret) .skip)) (s (.bW X7 acf) (s (r acg) .ret))))
def MU:List bg:=[.tmp 4]
theorem UD:bH Tryz.prog Tryz.f173 BN:=e (by kernel_rfl)
theorem WJ:bI Tryz.prog Tryz.f173 MU:=e (by kernel_rfl)
theorem SI:bG Tryz.prog 173:=e (by kernel_rfl)
def ach:=[b 3 1,o 4 (.mv bt)]
def aci:=[m 6 0,o 7 (.nilC (.t 6)),f 8 0 0 7,l 9 8,f 10 4 5 3,l 11 10,o 12 (.lk (.i .i64) (.nilp) false (.t 9) (.t 11)),m 5 12]
def X8:=some [[],[0],[1],[2],[],[4],[3,5],[6,0,1,2,3,4,5,6]]
def acj:=[m 13 5,o 14 (.ptrE false (.t 13) (.c (.nilp))),m 15 14,eK 16 5 15,on 17 (.call 90 [.t 16]) 15,or 18 15 17,m 19 18,eK 20 5 19,on 21 (.nilC (.t 20)) 19,fn 22 0 0 21 19,fn 23 3 3 22 19,mJ 24 23 19,on 25 (.bin .eql (.t 24) (aj 0)) 19,or 26 19 25,m 27 26,eK 28 5 27,on 29 (.nilC (.t 28)) 27,fn 30 0 0 29 27,fn 31 3 3 30 27,mJ 32 31 27,fn 33 7 8 3 27,mJ 34 33 27,on 35 (.bin .eql (.t 32) (.t 34)) 27,or 36 27 35]
def X9:=some [[],[0],[1],[2],[3,2,2],[2,4],[5,4],[6],[7,6],[8,6],[9,6],[10,6],[11,6],[6,12],[13,6],[14],[15,14],[16,14],[17,14],[18,14],[14],[20,14],[19,21,14],[14,22]]
def ack:=[o 4 (.mv bt)]
def acm:=[m 37 5,f 38 7 8 3,l 39 38,o 40 (.nilC (.t 37)),f 41 0 0 40,f 42 3 3 41,p (.bu none (.t 42) (.t 39))]
def acn:=[o 4 (.mv T)]
def BO:aM:=(s (r ach) (s (.bW X8 aci) (s (s (.bW X9 acj) (.cond (.t 36) (s (r ack) .ret) .skip)) (s (r acm) (s (r acn) .ret)))))
def MV:List bg:=[.tmp 4]
theorem UE:bH Tryz.prog Tryz.f174 BO:=e (by kernel_rfl)
theorem WK:bI Tryz.prog Tryz.f174 MV:=e (by kernel_rfl)
theorem SJ:bG Tryz.prog 174:=e (by kernel_rfl)
def aco:=[b 3 1,o 4 (.mv bt)]
def acp:=[m 6 0,o 7 (.nilC (.t 6)),f 8 0 0 7,l 9 8,f 10 4 5 3,l 11 10,o 12 (.lk (.i .i64) (.nilp) false (.t 9) (.t 11)),m 5 12]
def Ya:=some [[],[0],[1],[2],[],[4],[3,5],[6,0,1,2,3,4,5,6]]
def acq:=[m 13 5,o 14 (.ptrE false (.t 13) (.c (.nilp)))]
def acr:=[o 4 (.mv bt)]
def xc:=[m 15 5,m 16 5,o 17 (.nilC (.t 16)),f 18 0 0 17,f 19 8 8 18,l 20 19,f 21 8 9 3,ay 22 6 21,o 23 (.bs 6 [.t 22]),o 24 (.dC 66 6 48 (.agg [.int .i64 0,.int .i64 0,.int .i64 0,.int .i64 0,.int .i64 0,.int .i64 0]) (.t 20) (.t 23)),o 25 (.nilC (.t 15)),f 26 0 0 25,f 27 8 8 26,p (.bu none (.t 27) (.t 24))]
def Yb:=some [[],[],[1],[2],[3],[4],[],[6],[7],[5,8],[0,0,1,2,3,4,5,6,7,8,9],[10,0,1,2,3,4,5,6,7,8,9],[11,0,1,2,3,4,5,6,7,8,9],[12,9,9,0,1,2,3,4,5,6,7,8,9]] -- DRAW BAD
def acs:=[o 4 (.mv T)]
def BP:aM:=(s (r aco) (s (.bW Ya acp) (s (s (r acq) (.cond (.t 14) (s (r acr) .ret) .skip)) (s (.bW Yb xc) (s (r acs) .ret)))))
def MW:List bg:=[.tmp 4]
theorem UF:bH Tryz.prog Tryz.f175 BP:=e (by kernel_rfl)
theorem WL:bI Tryz.prog Tryz.f175 MW:=e (by kernel_rfl)
theorem SK:bG Tryz.prog 175:=e (by kernel_rfl)
def acu:=[b 3 1,o 4 (.mv bt)]
def acv:=[m 6 0,o 7 (.nilC (.t 6)),f 8 0 0 7,l 9 8,f 10 4 5 3,l 11 10,o 12 (.lk (.i .i64) (.nilp) false (.t 9) (.t 11)),m 5 12]
def Yc:=some [[],[0],[1],[2],[],[4],[3,5],[6,0,1,2,3,4,5,6]]
def acw:=[m 13 5,o 14 (.ptrE false (.t 13) (.c (.nilp)))]
def acx:=[o 4 (.mv bt)]
def acy:=[m 15 5,m 16 5,f 17 7 8 3,l 18 17,o 19 (.nilC (.t 15)),f 20 0 0 19,f 21 3 3 20,p (.bu none (.t 21) (.t 18)),o 22 (.nilC (.t 16)),f 23 0 0 22,f 24 7 7 23,p (.bu none (.t 24) T)]
def acz:=[o 4 (.mv T)]
def BQ:aM:=(s (r acu) (s (.bW Yc acv) (s (s (r acw) (.cond (.t 14) (s (r acx) .ret) .skip)) (s (r acy) (s (r acz) .ret)))))
def MX:List bg:=[.tmp 4]
theorem UG:bH Tryz.prog Tryz.f176 BQ:=e (by kernel_rfl)
theorem WM:bI Tryz.prog Tryz.f176 MX:=e (by kernel_rfl)
theorem SL:bG Tryz.prog 176:=e (by kernel_rfl)
def acA:=[b 3 1,o 4 (.mv bt)]
def acB:=[m 6 0,o 7 (.nilC (.t 6)),f 8 0 0 7,l 9 8,f 10 4 5 3,l 11 10,o 12 (.lk (.i .i64) (.nilp) false (.t 9) (.t 11)),m 5 12]
def Yd:=some [[],[0],[1],[2],[],[4],[3,5],[6,0,1,2,3,4,5,6]]
def acC:=[m 13 5,o 14 (.ptrE false (.t 13) (.c (.nilp))),m 15 14,eK 16 5 15,on 17 (.call 90 [.t 16]) 15,or 18 15 17]
def acD:=[o 4 (.mv bt)]
def acE:=[m 19 5,f 20 2 3 3,l 21 20,o 22 (.nilC (.t 19)),f 23 0 0 22,f 24 6 6 23,p (.bu none (.t 24) (.t 21))]
def acF:=[o 4 (.mv T)]
def BR:aM:=(s (r acA) (s (.bW Yd acB) (s (s (r acC) (.cond (.t 18) (s (r acD) .ret) .skip)) (s (r acE) (s (r acF) .ret)))))
def MY:List bg:=[.tmp 4]
theorem UH:bH Tryz.prog Tryz.f177 BR:=e (by kernel_rfl)
theorem WN:bI Tryz.prog Tryz.f177 MY:=e (by kernel_rfl)
theorem SM:bG Tryz.prog 177:=e (by kernel_rfl)
def GW:=[l 4 1,o 5 (.len (.t 4)),o 6 (.bin .sub (.t 5) (aj 1)),m 3 6]
def GX:=[m 7 3,o 8 (.bin .geq (.t 7) (aj 0))]
def GY:=[m 11 0,m 12 3,l 13 1,m 14 3,o 15 (.is 17 (.t 13) (.t 14)),ay 16 17 15,o 17 (.eD (.t 11) [.t 12,.t 16]),no 18 17]
def GZ:=[m 9 3,o 10 (.bin .sub (.t 9) (aj 1)),m 3 10]
def BS:aM:=(s (r GW) (.block 0 (.loop (s (s (r GX) (.cond (.t 8) .skip (.exit 0))) (s (.block 1 (s (r GY) (.cond (.t 18) .ret .skip))) (r GZ))))))
def MZ:List bg:=[]
theorem UI:bH Tryz.prog Tryz.f178 BS:=e (by kernel_rfl)
theorem WO:bI Tryz.prog Tryz.f178 MZ:=e (by kernel_rfl)
theorem CQ:bG Tryz.prog 178:=e (by kernel_rfl)
def G0:=[b 1 0,o 2 (.mv bt)]
def G1:=[o 3 (.va 6 1 (.t 1)),o 4 (.call 125 [.t 3,(.c (.func 211 []))]),no 5 4,m 2 5]
def BU:aM:=(s (r G0) (s (r G1) .ret))
def M2:List bg:=[.tmp 2]
theorem UK:bH Tryz.prog Tryz.f193 BU:=e (by kernel_rfl)
theorem WR:bI Tryz.prog Tryz.f193 M2:=e (by kernel_rfl)
theorem SO:bG Tryz.prog 193:=e (by kernel_rfl)
def G2:=[o 2 (.mv bt)]
def G3:=[m 3 0,m 4 0,o 5 (.bin .neq (.t 3) (.t 4)),m 2 5]
def BV:aM:=(s (r G2) (s (r G3) .ret))
def M3:List bg:=[.tmp 2]
theorem UL:bH Tryz.prog Tryz.f194 BV:=e (by kernel_rfl)
theorem WS:bI Tryz.prog Tryz.f194 M3:=e (by kernel_rfl)
theorem SP:bG Tryz.prog 194:=e (by kernel_rfl)
def G4:=[bd 4 0]
def G5:=[m 6 0,o 7 (.len (.t 6)),bd 8 0]
def G6:=[lt 9 8 7]
def G7:=[m 10 8,m 5 10]
def G8:=[m 11 1,m 12 0,m 13 5,o 14 (.is 7 (.t 12) (.t 13)),ay 15 7 14,o 16 (.eD (.t 11) [.t 15])]
def G9:=[m 17 5,m 4 17]
def Ha:=[ad 18 8 1,m 8 18]
def Hb:=[bd 4 (-1)]
def BW:aM:=(s (r G4) (s (s (r G5) (.block 0 (.loop (s (r G6) (s (.cond (.t 9) .skip (.exit 0)) (s (.block 1 (s (r G7) (s (r G8) (.cond (.t 16) (s (r G9) .ret) .skip)))) (r Ha))))))) (s (r Hb) .ret)))
def M4:List bg:=[.tmp 4]
theorem UM:bH Tryz.prog Tryz.f195 BW:=e (by kernel_rfl)
theorem WT:bI Tryz.prog Tryz.f195 M4:=e (by kernel_rfl)
theorem SQ:bG Tryz.prog 195:=e (by kernel_rfl)
def Hc:=[o 4 (.mv bt)]
def Hd:=[m 5 0,m 6 1,o 7 (.bin .and (.t 5) (.t 6)),o 8 (.bin .neq (.t 7) (aj 0)),m 4 8]
def BX:aM:=(s (r Hc) (s (r Hd) .ret))
def M5:List bg:=[.tmp 4]
theorem UN:bH Tryz.prog Tryz.f196 BX:=e (by kernel_rfl)
theorem WU:bI Tryz.prog Tryz.f196 M5:=e (by kernel_rfl)
theorem SR:bG Tryz.prog 196:=e (by kernel_rfl)
def He:=[bd 2 0]
def Hf:=[bd 3 0]
def Hg:=[bd 5 0]
def Hh:=[o 6 (.bin .lss (.t 5) (aj 6))]
def Hi:=[m 7 5,m 4 7]
def Hj:=[m 8 0,m 9 4,o 10 (.eD (.t 8) [.t 9]),no 11 10]
def Hk:=[m 12 3,ad 13 12 1,m 3 13]
def xd:=[ad 14 5 1,m 5 14]
def Hl:=[m 15 3,m 2 15]
def BY:aM:=(s (r He) (s (r Hf) (s (s (r Hg) (.block 0 (.loop (s (r Hh) (s (.cond (.t 6) .skip (.exit 0)) (s (.block 1 (s (r Hi) (s (r Hj) (.cond (.t 11) (r Hk) .skip)))) (r xd))))))) (s (r Hl) .ret))))
def M6:List bg:=[.tmp 2]
theorem UO:bH Tryz.prog Tryz.f197 BY:=e (by kernel_rfl)
theorem WV:bI Tryz.prog Tryz.f197 M6:=e (by kernel_rfl)
theorem SS:bG Tryz.prog 197:=e (by kernel_rfl)
def Hm:=[o 6 (.mv bt)]
def Hn:=[l 7 1,ay 8 5 2,ay 9 6 3,m 10 0,o 11 (.call 199 [.t 8,.t 9,.t 10]),ay 12 5 2,ay 13 6 4,m 14 0,o 15 (.call 199 [.t 12,.t 13,.t 14]),o 16 (.eD (.t 7) [.t 11,.t 15]),m 6 16]
def Yf:=some [[],[],[],[],[1,2,3],[],[],[],[5,6,7,4],[0,4,8,8],[9,9,0,1,2,3,4,5,6,7,8,9]]
def BZ:aM:=(s (r Hm) (s (.bW Yf Hn) .ret))
def M7:List bg:=[.tmp 6]
theorem UP:bH Tryz.prog Tryz.f198 BZ:=e (by kernel_rfl)
theorem WW:bI Tryz.prog Tryz.f198 M7:=e (by kernel_rfl)
theorem SU:bG Tryz.prog 198:=e (by kernel_rfl)
def Ho:=[b 3 0,b 4 1,bd 6 0]
def Hp:=[m 7 2,o 8 (.ia 6 1 (.t 4) (.t 7)),l 9 8,o 10 (.ia 5 1 (.t 3) (.t 9)),l 11 10,m 6 11]
def B1:aM:=(s (r Ho) (s (r Hp) .ret))
def M8:List bg:=[.tmp 6]
theorem UQ:bH Tryz.prog Tryz.f199 B1:=e (by kernel_rfl)
theorem WX:bI Tryz.prog Tryz.f199 M8:=e (by kernel_rfl)
theorem SV:bG Tryz.prog 199:=e (by kernel_rfl)
def xe:=[o 4 (.mv (.c (.nils 7)))]
def xf:=[m 8 0,m 9 1,o 10 (.call 195 [.t 8,.t 9]),m 5 10]
def th:=[m 11 5,o 12 (.bin .eql (.t 11) (.c (.int .i64 (-1))))]
def xh:=[m 13 0,m 4 13]
def Hs:=[m 14 5,ad 15 14 1,m 6 15]
def Ht:=[m 16 6,m 17 0,o 18 (.len (.t 17)),lt 19 16 18]
def Hu:=[m 22 0,m 23 6,o 24 (.is 7 (.t 22) (.t 23)),ay 25 7 24,o 7 (.alloc (.agg [.int .i64 0,.agg [.int .i64 0,.int .i64 0,.int .i64 0,.int .i64 0,.int .i64 0,.int .i64 0]])),p (.bu (some 7) (.t 7) (.t 25))]
def Hv:=[m 26 1,ay 27 7 7,o 28 (.eD (.t 26) [.t 27]),no 29 28]
def Hw:=[m 30 0,m 31 5,ay 32 7 7,o 33 (.is 7 (.t 30) (.t 31)),p (.bu (some 7) (.t 33) (.t 32))]
def Hx:=[m 34 5,ad 35 34 1,m 5 35]
def xg:=[m 20 6,ad 21 20 1,m 6 21]
def Hq:=[m 36 0,m 37 5,o 38 (.sl 7 (.t 36) (some (.t 37)) none none),p (.ju 7 (.agg [.int .i64 0,.agg [.int .i64 0,.int .i64 0,.int .i64 0,.int .i64 0,.int .i64 0,.int .i64 0]]) (.t 38))]
def Hr:=[m 39 0,m 40 5,o 41 (.sl 7 (.t 39) none (some (.t 40)) none),m 4 41]
def vA:aM:=(s (r xe) (s (r xf) (s (s (r th) (.cond (.t 12) (s (r xh) .ret) .skip)) (s (s (r Hs) (.block 0 (.loop (s (s (r Ht) (.cond (.t 19) .skip (.exit 0))) (s (.block 1 (s (r Hu) (s (r Hv) (.cond (.t 29) (s (r Hw) (r Hx)) .skip)))) (r xg)))))) (s (r Hq) (s (r Hr) .ret))))))
def zc:List bg:=[.tmp 4]
theorem CY:bH Tryz.prog Tryz.f200 vA:=e (by kernel_rfl)
theorem Da:bI Tryz.prog Tryz.f200 zc:=e (by kernel_rfl)
theorem CR:bG Tryz.prog 200:=e (by kernel_rfl)
def Hy:=[b 3 0,o 4 (.mv bt)]
def Hz:=[f 5 0 0 1,ay 6 5 5,f 7 1 1 3,ay 8 6 7,ay 9 6 2,o 10 (.call 202 [.t 6,.t 8,.t 9]),f 11 1 5 1,l 12 11,o 13 (.bin .gtr (.t 10) (.t 12)),m 4 13]
def Yg:=some [[],[0],[],[2],[],[1,3,4],[],[6],[5,7],[8,5,0,1,2,3,4,5,6,7,8]]
def B4:aM:=(s (r Hy) (s (.bW Yg Hz) .ret))
def Na:List bg:=[.tmp 4]
theorem US:bH Tryz.prog Tryz.f201 B4:=e (by kernel_rfl)
theorem WZ:bI Tryz.prog Tryz.f201 Na:=e (by kernel_rfl)
theorem SX:bG Tryz.prog 201:=e (by kernel_rfl)
def HA:=[b 3 0,b 4 1,b 5 2,bd 6 0]
def HB:=[o 7 (.alloc (.dh)),p (.bu none (.t 7) (.c (.func 196 [])))]
def HC:=[o 8 (.mk 212 [.t 7,.t 3,.t 4,.t 5]),o 9 (.call 197 [.t 8]),m 6 9]
def B5:aM:=(s (r HA) (s (r HB) (s (r HC) .ret)))
def Nb:List bg:=[.tmp 6]
theorem UT:bH Tryz.prog Tryz.f202 B5:=e (by kernel_rfl)
theorem W2:bI Tryz.prog Tryz.f202 Nb:=e (by kernel_rfl)
theorem SY:bG Tryz.prog 202:=e (by kernel_rfl)
def xi:=[m 10 1,ad 11 10 1,m 8 11]
def HD:=[m 12 8,m 13 2,lt 14 12 13]
def HE:=[m 17 8,m 9 17]
def acT:=[m 18 9,m 19 1,o 20 (.bin .gtr (.t 18) (.t 19)),m 21 20,c8 22 3 21,c8 23 0 21,c8 24 9 21,bQ 25 (.is 1 (.t 23) (.t 24)) 21,eI 26 25 21,c8 27 0 21,c8 28 9 21,bQ 29 (.bin .sub (.t 28) (aj 1)) 21,bQ 30 (.is 1 (.t 27) (.t 29)) 21,eI 31 30 21,bQ 32 (.eD (.t 22) [.t 26,.t 31]) 21,bQ 33 (.bin .lss (.t 32) (aj 0)) 21,and 34 21 33]
def Yh:=some [[],[],[0,1],[2],[3],[3],[3],[5,6,3],[7,3],[3],[3],[10,3],[9,11,3],[12,3],[4,8,13,3,3],[14,3],[3,15]]
def acU:=[m 37 0,m 38 9,m 39 0,m 40 9,o 41 (.bin .sub (.t 40) (aj 1)),m 42 0,m 43 9,o 44 (.bin .sub (.t 43) (aj 1)),o 45 (.is 1 (.t 42) (.t 44)),l 46 45,m 47 0,m 48 9,o 49 (.is 1 (.t 47) (.t 48)),l 50 49,o 51 (.is 1 (.t 37) (.t 38)),p (.bu none (.t 51) (.t 46)),o 52 (.is 1 (.t 39) (.t 41)),p (.bu none (.t 52) (.t 50))]
def Yi:=some [[],[],[],[],[3],[],[],[6],[5,7],[8],[],[],[10,11],[12],[0,1,0,1,5,6,7,8,9,13],[14,9,0,1,5,6,7,8,9,13],[2,4,0,1,2,3,4,5,6,7,8,9,10,11,12,13,14,15],[16,13,15,0,1,2,3,4,5,6,7,8,9,10,11,12,13,14,15]]
def acV:=[m 35 9,o 36 (.bin .sub (.t 35) (aj 1)),m 9 36]
def acW:=[m 15 8,ad 16 15 1,m 8 16]
def vB:aM:=(s (r xi) (.block 0 (.loop (s (s (r HD) (.cond (.t 14) .skip (.exit 0))) (s (.block 1 (s (r HE) (.block 2 (.loop (s (s (.bW Yh acT) (.cond (.t 34) .skip (.exit 2))) (s (.block 3 (.bW Yi acU)) (r acV))))))) (r acW))))))
def zd:List bg:=[]
theorem CZ:bH Tryz.prog Tryz.f203 vB:=e (by kernel_rfl)
theorem Db:bI Tryz.prog Tryz.f203 zd:=e (by kernel_rfl)
theorem CS:bG Tryz.prog 203:=e (by kernel_rfl)
def tj:=[m 25 2,m 26 1,o 27 (.bin .sub (.t 25) (.t 26)),o 28 (.bin .eql (.t 27) (aj 1))]
def HF:=[m 29 2,m 10 29]
def HK:=[m 30 3,m 11 30]
def HP:=[m 31 10,m 32 11,lt 33 31 32]
def adi:=[m 34 10,m 35 11,o 36 (.bin .add (.t 34) (.t 35)),o 37 (.conv .u64 (.t 36)),o 38 (.bin .shr (.t 37) (.c (.int .u64 1))),o 39 (.conv .i64 (.t 38)),m 12 39]
def ado:=[m 40 4,m 41 0,m 42 12,o 43 (.is 1 (.t 41) (.t 42)),l 44 43,m 45 0,m 46 1,o 47 (.is 1 (.t 45) (.t 46)),l 48 47,o 49 (.eD (.t 40) [.t 44,.t 48]),o 50 (.bin .lss (.t 49) (aj 0))]
def Yn:=some [[],[],[],[1,2],[3],[],[],[5,6],[7],[0,4,8],[9]]
def adp:=[m 51 12,ad 52 51 1,m 10 52]
def adq:=[m 53 12,m 11 53]
def HT:=[m 54 1,m 13 54]
def adr:=[m 55 13,m 56 10,o 57 (.bin .sub (.t 56) (aj 1)),lt 58 55 57]
def acX:=[m 61 0,m 62 13,m 63 0,m 64 13,ad 65 64 1,m 66 0,m 67 13,ad 68 67 1,o 69 (.is 1 (.t 66) (.t 68)),l 70 69,m 71 0,m 72 13,o 73 (.is 1 (.t 71) (.t 72)),l 74 73,o 75 (.is 1 (.t 61) (.t 62)),p (.bu none (.t 75) (.t 70)),o 76 (.is 1 (.t 63) (.t 65)),p (.bu none (.t 76) (.t 74))]
def Yj:=some [[],[],[],[],[3],[],[],[6],[5,7],[8],[],[],[10,11],[12],[0,1,0,1,5,6,7,8,9,13],[14,9,0,1,5,6,7,8,9,13],[2,4,0,1,2,3,4,5,6,7,8,9,10,11,12,13,14,15],[16,13,15,0,1,2,3,4,5,6,7,8,9,10,11,12,13,14,15]]
def acY:=[m 59 13,ad 60 59 1,m 13 60]
def xj:=[m 77 3,m 78 2,o 79 (.bin .sub (.t 77) (.t 78)),o 80 (.bin .eql (.t 79) (aj 1))]
def HG:=[m 81 1,m 14 81]
def HI:=[m 82 2,m 15 82]
def HJ:=[m 83 14,m 84 15,lt 85 83 84]
def acZ:=[m 86 14,m 87 15,o 88 (.bin .add (.t 86) (.t 87)),o 89 (.conv .u64 (.t 88)),o 90 (.bin .shr (.t 89) (.c (.int .u64 1))),o 91 (.conv .i64 (.t 90)),m 16 91]
def ac0:=[m 92 4,m 93 0,m 94 2,o 95 (.is 1 (.t 93) (.t 94)),l 96 95,m 97 0,m 98 16,o 99 (.is 1 (.t 97) (.t 98)),l 100 99,o 101 (.eD (.t 92) [.t 96,.t 100]),o 102 (.bin .lss (.t 101) (aj 0)),no 103 102]
def Yk:=some [[],[],[],[1,2],[3],[],[],[5,6],[7],[0,4,8],[9],[10]]
def ac1:=[m 104 16,ad 105 104 1,m 14 105]
def ac2:=[m 106 16,m 15 106]
def HL:=[m 107 2,m 17 107]
def ac3:=[m 108 17,m 109 14,o 110 (.bin .gtr (.t 108) (.t 109))]
def ac4:=[m 113 0,m 114 17,m 115 0,m 116 17,o 117 (.bin .sub (.t 116) (aj 1)),m 118 0,m 119 17,o 120 (.bin .sub (.t 119) (aj 1)),o 121 (.is 1 (.t 118) (.t 120)),l 122 121,m 123 0,m 124 17,o 125 (.is 1 (.t 123) (.t 124)),l 126 125,o 127 (.is 1 (.t 113) (.t 114)),p (.bu none (.t 127) (.t 122)),o 128 (.is 1 (.t 115) (.t 117)),p (.bu none (.t 128) (.t 126))]
def Yl:=some [[],[],[],[],[3],[],[],[6],[5,7],[8],[],[],[10,11],[12],[0,1,0,1,5,6,7,8,9,13],[14,9,0,1,5,6,7,8,9,13],[2,4,0,1,2,3,4,5,6,7,8,9,10,11,12,13,14,15],[16,13,15,0,1,2,3,4,5,6,7,8,9,10,11,12,13,14,15]]
def ac5:=[m 111 17,o 112 (.bin .sub (.t 111) (aj 1)),m 17 112]
def HM:=[m 129 1,m 130 3,o 131 (.bin .add (.t 129) (.t 130)),o 132 (.conv .u64 (.t 131)),o 133 (.bin .shr (.t 132) (.c (.int .u64 1))),o 134 (.conv .i64 (.t 133)),m 18 134]
def HN:=[m 135 18,m 136 2,o 137 (.bin .add (.t 135) (.t 136)),m 19 137]
def HO:=[bd 20 0,bd 21 0]
def ac6:=[m 138 2,m 139 18,o 140 (.bin .gtr (.t 138) (.t 139))]
def ac7:=[m 141 19,m 142 3,o 143 (.bin .sub (.t 141) (.t 142)),m 20 143]
def ac8:=[m 144 18,m 21 144]
def ac9:=[m 145 1,m 20 145]
def ada:=[m 146 2,m 21 146]
def HQ:=[m 147 19,o 148 (.bin .sub (.t 147) (aj 1)),m 22 148]
def HR:=[m 149 20,m 150 21,lt 151 149 150]
def adb:=[m 152 20,m 153 21,o 154 (.bin .add (.t 152) (.t 153)),o 155 (.conv .u64 (.t 154)),o 156 (.bin .shr (.t 155) (.c (.int .u64 1))),o 157 (.conv .i64 (.t 156)),m 23 157]
def ade:=[m 158 4,m 159 0,m 160 22,m 161 23,o 162 (.bin .sub (.t 160) (.t 161)),o 163 (.is 1 (.t 159) (.t 162)),l 164 163,m 165 0,m 166 23,o 167 (.is 1 (.t 165) (.t 166)),l 168 167,o 169 (.eD (.t 158) [.t 164,.t 168]),o 170 (.bin .lss (.t 169) (aj 0)),no 171 170]
def Ym:=some [[],[],[],[],[2,3],[1,4],[5],[],[],[7,8],[9],[0,6,10],[11],[12]]
def adf:=[m 172 23,ad 173 172 1,m 20 173]
def adg:=[m 174 23,m 21 174]
def HS:=[m 175 19,m 176 20,o 177 (.bin .sub (.t 175) (.t 176)),m 24 177]
def adh:=[m 178 20,m 179 2,lt 180 178 179,m 181 180,c8 182 2 181,c8 183 24 181,bQ 184 (.bin .lss (.t 182) (.t 183)) 181,and 185 181 184]
def adj:=[m 186 0,m 187 20,m 188 2,m 189 24,m 190 4,o 191 (.call 213 [.t 186,.t 187,.t 188,.t 189,.t 190])]
def adk:=[m 192 1,m 193 20,lt 194 192 193,m 195 194,c8 196 20 195,c8 197 18 195,bQ 198 (.bin .lss (.t 196) (.t 197)) 195,and 199 195 198]
def adl:=[m 200 0,m 201 1,m 202 20,m 203 18,m 204 4,o 205 (.call 204 [.t 200,.t 201,.t 202,.t 203,.t 204])]
def adm:=[m 206 18,m 207 24,lt 208 206 207,m 209 208,c8 210 24 209,c8 211 3 209,bQ 212 (.bin .lss (.t 210) (.t 211)) 209,and 213 209 212]
def adn:=[m 214 0,m 215 18,m 216 24,m 217 3,m 218 4,o 219 (.call 204 [.t 214,.t 215,.t 216,.t 217,.t 218])]
def sK:aM:=(s (s (r tj) (.cond (.t 28) (s (r HF) (s (r HK) (s (.block 0 (.loop (s (s (r HP) (.cond (.t 33) .skip (.exit 0))) (.block 1 (s (r adi) (s (.bW Yn ado) (.cond (.t 50) (r adp) (r adq)))))))) (s (s (r HT) (.block 2 (.loop (s (s (r adr) (.cond (.t 58) .skip (.exit 2))) (s (.block 3 (.bW Yj acX)) (r acY)))))) .ret)))) .skip)) (s (s (r xj) (.cond (.t 80) (s (r HG) (s (r HI) (s (.block 4 (.loop (s (s (r HJ) (.cond (.t 85) .skip (.exit 4))) (.block 5 (s (r acZ) (s (.bW Yk ac0) (.cond (.t 103) (r ac1) (r ac2)))))))) (s (s (r HL) (.block 6 (.loop (s (s (r ac3) (.cond (.t 110) .skip (.exit 6))) (s (.block 7 (.bW Yl ac4)) (r ac5)))))) .ret)))) .skip)) (s (r HM) (s (r HN) (s (r HO) (s (s (r ac6) (.cond (.t 140) (s (r ac7) (r ac8)) (s (r ac9) (r ada)))) (s (r HQ) (s (.block 8 (.loop (s (s (r HR) (.cond (.t 151) .skip (.exit 8))) (.block 9 (s (r adb) (s (.bW Ym ade) (.cond (.t 171) (r adf) (r adg)))))))) (s (r HS) (s (s (r adh) (.cond (.t 185) (r adj) .skip)) (s (s (r adk) (.cond (.t 199) (r adl) .skip)) (s (r adm) (.cond (.t 213) (r adn) .skip)))))))))))))
def uv:List bg:=[]
theorem vI:bH Tryz.prog Tryz.f204 sK:=e (by kernel_rfl)
theorem vU:bI Tryz.prog Tryz.f204 uv:=e (by kernel_rfl)
theorem vF:bG Tryz.prog 204:=e (by kernel_rfl)
def H4:=[o 2 (.mv bt)]
def H5:=[m 3 0,o 4 (.bin .eql (.t 3) (aj 0)),m 5 4,eK 6 0 5,on 7 (.call 160 [.t 6]) 5,on 8 (.un .not (.t 7)) 5,or 9 5 8,m 2 9]
def B7:aM:=(s (r H4) (s (r H5) .ret))
def Nd:List bg:=[.tmp 2]
theorem UW:bH Tryz.prog Tryz.f211 B7:=e (by kernel_rfl)
theorem W4:bI Tryz.prog Tryz.f211 Nd:=e (by kernel_rfl)
theorem S0:bG Tryz.prog 211:=e (by kernel_rfl)
def H6:=[o 6 (.mv bt)]
def H7:=[l 7 1,ay 8 5 2,ay 9 6 3,m 10 0,o 11 (.call 199 [.t 8,.t 9,.t 10]),m 12 0,o 13 (.ia 6 1 (.t 4) (.t 12)),l 14 13,o 15 (.eD (.t 7) [.t 11,.t 14]),m 6 15]
def Yp:=some [[],[],[],[],[1,2,3],[],[5],[6],[0,4,7,4],[8,8,0,1,2,3,4,5,6,7,8]]
def B8:aM:=(s (r H6) (s (.bW Yp H7) .ret))
def Nf:List bg:=[.tmp 6]
theorem UX:bH Tryz.prog Tryz.f212 B8:=e (by kernel_rfl)
theorem W5:bI Tryz.prog Tryz.f212 Nf:=e (by kernel_rfl)
theorem S1:bG Tryz.prog 212:=e (by kernel_rfl)
def H8:=[m 12 2,m 13 1,o 14 (.bin .sub (.t 12) (.t 13)),m 10 14]
def H9:=[m 15 3,m 16 2,o 17 (.bin .sub (.t 15) (.t 16)),m 11 17]
def Ia:=[m 18 10,m 19 11,o 20 (.bin .neq (.t 18) (.t 19))]
def Ib:=[m 21 10,m 22 11,o 23 (.bin .gtr (.t 21) (.t 22))]
def Ic:=[m 24 0,m 25 2,m 26 10,o 27 (.bin .sub (.t 25) (.t 26)),m 28 2,m 29 11,m 30 4,o 31 (.call 216 [.t 24,.t 27,.t 28,.t 29,.t 30])]
def Ie:=[m 32 10,m 33 11,o 34 (.bin .sub (.t 32) (.t 33)),m 10 34]
def If:=[m 35 0,m 36 2,m 37 10,o 38 (.bin .sub (.t 36) (.t 37)),m 39 2,m 40 11,o 41 (.bin .add (.t 39) (.t 40)),m 42 10,o 43 (.bin .sub (.t 41) (.t 42)),m 44 10,m 45 4,o 46 (.call 216 [.t 35,.t 38,.t 43,.t 44,.t 45])]
def Ig:=[m 47 11,m 48 10,o 49 (.bin .sub (.t 47) (.t 48)),m 11 49]
def Ih:=[m 50 0,m 51 2,m 52 10,o 53 (.bin .sub (.t 51) (.t 52)),m 54 2,m 55 10,m 56 4,o 57 (.call 216 [.t 50,.t 53,.t 54,.t 55,.t 56])]
def B9:aM:=(s (r H8) (s (r H9) (s (.block 0 (.loop (s (s (r Ia) (.cond (.t 20) .skip (.exit 0))) (.block 1 (s (r Ib) (.cond (.t 23) (s (r Ic) (r Ie)) (s (r If) (r Ig)))))))) (r Ih))))
def Ng:List bg:=[]
theorem UY:bH Tryz.prog Tryz.f213 B9:=e (by kernel_rfl)
theorem W6:bI Tryz.prog Tryz.f213 Ng:=e (by kernel_rfl)
theorem S2:bG Tryz.prog 213:=e (by kernel_rfl)
def Ii:=[bd 10 0]
def ads:=[m 11 10,m 12 3,lt 13 11 12]
def adt:=[m 16 0,m 17 1,m 18 10,o 19 (.bin .add (.t 17) (.t 18)),m 20 0,m 21 2,m 22 10,o 23 (.bin .add (.t 21) (.t 22)),m 24 0,m 25 2,m 26 10,o 27 (.bin .add (.t 25) (.t 26)),o 28 (.is 1 (.t 24) (.t 27)),l 29 28,m 30 0,m 31 1,m 32 10,o 33 (.bin .add (.t 31) (.t 32)),o 34 (.is 1 (.t 30) (.t 33)),l 35 34,o 36 (.is 1 (.t 16) (.t 19)),p (.bu none (.t 36) (.t 29)),o 37 (.is 1 (.t 20) (.t 23)),p (.bu none (.t 37) (.t 35))]
def Yq:=some [[],[],[],[1,2],[],[],[],[5,6],[],[],[],[9,10],[8,11],[12],[],[],[],[15,16],[14,17],[18],[0,3,0,1,2,3,8,9,10,11,12,13,19],[20,13,0,1,2,3,8,9,10,11,12,13,19],[4,7,0,1,2,3,4,5,6,7,8,9,10,11,12,13,14,15,16,17,18,19,20,21],[22,19,21,0,1,2,3,4,5,6,7,8,9,10,11,12,13,14,15,16,17,18,19,20,21]]
def adu:=[m 14 10,ad 15 14 1,m 10 15]
def Ca:aM:=(s (r Ii) (.block 0 (.loop (s (s (r ads) (.cond (.t 13) .skip (.exit 0))) (s (.block 1 (.bW Yq adt)) (r adu))))))
def Nh:List bg:=[]
theorem UZ:bH Tryz.prog Tryz.f216 Ca:=e (by kernel_rfl)
theorem W7:bI Tryz.prog Tryz.f216 Nh:=e (by kernel_rfl)
theorem S3:bG Tryz.prog 216:=e (by kernel_rfl)
def aeE:=[b 5 2,o 6 (.mv bt)]
def aeF:=[m 21 0,o 22 (.call 24 [.t 21]),m 23 1,m 24 0,o 25 (.call 23 [.t 22,.t 23,.t 24]),m 7 25]
def aeQ:=[o 26 (.ia 2 1 (.t 5) (aj 0)),l 27 26,o 28 (.call 25 [.t 27,(aj 32)]),m 8 28]
def aeZ:=[o 29 (.ia 2 1 (.t 5) (aj 1)),l 30 29,o 31 (.call 25 [.t 30,(aj 45)]),m 9 31]
def ae0:=[m 33 7,m 34 8,m 35 9,o 36 (.call 26 [.t 33,.t 34,.t 35]),m 32 36,o 37 (.ext (.t 32) 0),o 38 (.ext (.t 32) 1),m 10 37,m 11 38]
def ae1:=[m 39 11,o 40 (.bin .neq (.t 39) (aj 0))]
def ae2:=[o 6 (.mv bt)]
def ae3:=[bd 12 0]
def ae4:=[bd 13 0]
def ae5:=[m 41 13,m 42 10,o 43 (.len (.t 42)),lt 44 41 43]
def aeG:=[m 48 7,m 49 10,m 50 13,o 51 (.is 1 (.t 49) (.t 50)),l 52 51,m 53 8,m 54 9,o 55 (.call 27 [.t 48,.t 52,.t 53,.t 54]),m 47 55,o 56 (.ext (.t 47) 0),o 57 (.ext (.t 47) 1),m 14 56,m 15 57]
def aeH:=[m 58 15,o 59 (.bin .neq (.t 58) (aj 0))]
def aeI:=[o 6 (.mv bt)]
def aeJ:=[m 60 14,o 61 (.bin .neq (.t 60) (aj 0))]
def aeK:=[m 62 12,ad 63 62 1,m 12 63]
def aeL:=[m 45 13,ad 46 45 1,m 13 46]
def aeM:=[bd 16 0]
def aeN:=[bd 17 1]
def aeO:=[m 64 17,o 65 (.bin .leq (.t 64) (aj 12))]
def aeP:=[bd 18 1]
def aeR:=[m 68 18,o 69 (.bin .leq (.t 68) (aj 2))]
def aeS:=[m 73 7,m 74 17,m 75 18,m 76 8,m 77 9,o 78 (.call 28 [.t 73,.t 74,.t 75,.t 76,.t 77]),m 72 78,o 79 (.ext (.t 72) 0),o 80 (.ext (.t 72) 1),m 19 79,m 20 80]
def aeT:=[m 81 20,o 82 (.bin .neq (.t 81) (aj 0))]
def aeU:=[o 6 (.mv bt)]
def aeV:=[m 83 16,m 84 19,o 85 (.bin .add (.t 83) (.t 84)),m 16 85]
def aeW:=[m 70 18,ad 71 70 1,m 18 71]
def aeX:=[m 66 17,ad 67 66 1,m 17 67]
def aeY:=[m 86 16,m 87 12,o 88 (.bin .eql (.t 86) (.t 87)),m 89 88,bQ 90 (.call 22 []) 89,and 91 89 90,m 6 91]
def iy:aM:=(s (r aeE) (s (r aeF) (s (r aeQ) (s (r aeZ) (s (r ae0) (s (s (r ae1) (.cond (.t 40) (s (r ae2) .ret) .skip)) (s (r ae3) (s (s (r ae4) (.block 0 (.loop (s (s (r ae5) (.cond (.t 44) .skip (.exit 0))) (s (.block 1 (s (r aeG) (s (s (r aeH) (.cond (.t 59) (s (r aeI) .ret) .skip)) (s (r aeJ) (.cond (.t 61) (r aeK) .skip))))) (r aeL)))))) (s (r aeM) (s (s (r aeN) (.block 2 (.loop (s (s (r aeO) (.cond (.t 65) .skip (.exit 2))) (s (.block 3 (s (r aeP) (.block 4 (.loop (s (s (r aeR) (.cond (.t 69) .skip (.exit 4))) (s (.block 5 (s (r aeS) (s (s (r aeT) (.cond (.t 82) (s (r aeU) .ret) .skip)) (r aeV)))) (r aeW))))))) (r aeX)))))) (s (r aeY) .ret)))))))))))
def Nu:List bg:=[.tmp 6]
theorem Va:bH Tryz.prog Tryz.f4 iy:=e (by kernel_rfl)
theorem Xi:bI Tryz.prog Tryz.f4 Nu:=e (by kernel_rfl)
theorem Te:bG Tryz.prog 4:=e (by kernel_rfl)
def aaq:=[o 6 (.mv bt)]
def aar:=[m 27 0,o 28 (.call 24 [.t 27]),m 29 1,m 30 0,o 31 (.call 23 [.t 28,.t 29,.t 30]),m 7 31]
def aaC:=[o 8 (.alloc (.agg [.nils 17,.nils 17,.nils 17]))]
def aaK:=[bd 9 0]
def EG:=[m 32 9,m 33 7,o 34 (.len (.t 33)),lt 35 32 34]
def aaL:=[m 38 2,m 39 9,o 40 (.call 34 [.t 38,.t 39]),o 41 (.call 25 [.t 40,(aj 3)]),m 10 41]
def wE:=[m 42 10,m 43 10,o 44 (.ia 3 1 (.t 8) (.t 43)),l 45 44,m 46 7,m 47 9,o 48 (.is 17 (.t 46) (.t 47)),ay 49 17 48,o 50 (.bs 17 [.t 49]),o 51 (.dC 68 17 136 (.agg [.agg [.int .i64 0,.int .i64 0],.int .i64 0,.int .i64 0,.int .i64 0,.int .i64 0,.int .i64 0,.int .i64 0,.int .i64 0,.agg [.int .i64 0,.int .i64 0,.int .i64 0,.int .i64 0,.int .i64 0,.int .i64 0],.agg [.int .i64 0,.int .i64 0]]) (.t 45) (.t 50)),o 52 (.ia 3 1 (.t 8) (.t 42)),p (.bu none (.t 52) (.t 51))]
def XS:=some [[],[],[1],[2],[],[],[4,5],[6],[7],[3,8],[0,0,1,2,3,4,5,6,7,8,9],[10,9,9,0,1,2,3,4,5,6,7,8,9]] -- DRAW BAD
def aaM:=[m 53 2,m 54 9,ad 55 54 1,o 56 (.call 34 [.t 53,.t 55]),o 57 (.call 25 [.t 56,(aj 2)]),o 58 (.bin .eql (.t 57) (aj 0))]
def wF:=[m 59 10,ad 60 59 1,o 61 (.bin .rem (.t 60) (aj 3)),m 62 10,ad 63 62 1,o 64 (.bin .rem (.t 63) (aj 3)),o 65 (.ia 3 1 (.t 8) (.t 64)),l 66 65,m 67 7,m 68 9,o 69 (.is 17 (.t 67) (.t 68)),ay 70 17 69,o 71 (.bs 17 [.t 70]),o 72 (.dC 68 17 136 (.agg [.agg [.int .i64 0,.int .i64 0],.int .i64 0,.int .i64 0,.int .i64 0,.int .i64 0,.int .i64 0,.int .i64 0,.int .i64 0,.agg [.int .i64 0,.int .i64 0,.int .i64 0,.int .i64 0,.int .i64 0,.int .i64 0],.agg [.int .i64 0,.int .i64 0]]) (.t 66) (.t 71)),o 73 (.ia 3 1 (.t 8) (.t 61)),p (.bu none (.t 73) (.t 72))]
def XT:=some [[],[0],[1],[],[3],[4],[5],[6],[],[],[8,9],[10],[11],[7,12],[2,0,1,2,3,4,5,6,7,8,9,10,11,12,13],[14,13,13,0,1,2,3,4,5,6,7,8,9,10,11,12,13]] -- DRAW BAD
def aaN:=[m 36 9,ad 37 36 1,m 9 37]
def aas:=[o 75 (.ia 3 1 (.t 8) (aj 0)),l 76 75,o 77 (.ia 3 1 (.t 8) (aj 1)),l 78 77,o 79 (.call 52 [.t 76,.t 78]),m 74 79,o 80 (.ext (.t 74) 0),o 81 (.ext (.t 74) 1),m 11 80,m 12 81]
def aat:=[o 83 (.ia 3 1 (.t 8) (aj 1)),l 84 83,o 85 (.ia 3 1 (.t 8) (aj 0)),l 86 85,o 87 (.call 52 [.t 84,.t 86]),m 82 87,o 88 (.ext (.t 82) 0),o 89 (.ext (.t 82) 1),m 13 88,m 14 89]
def aau:=[m 91 11,o 92 (.ia 3 1 (.t 8) (aj 2)),l 93 92,o 94 (.call 52 [.t 91,.t 93]),m 90 94,o 95 (.ext (.t 90) 0),o 96 (.ext (.t 90) 1),m 15 95,m 16 96]
def aav:=[o 98 (.ia 3 1 (.t 8) (aj 1)),l 99 98,o 100 (.ia 3 1 (.t 8) (aj 2)),l 101 100,o 102 (.call 52 [.t 99,.t 101]),m 97 102,o 103 (.ext (.t 97) 0),o 104 (.ext (.t 97) 1),m 17 103,m 18 104]
def aaw:=[o 106 (.ia 3 1 (.t 8) (aj 0)),l 107 106,m 108 17,o 109 (.call 52 [.t 107,.t 108]),m 105 109,o 110 (.ext (.t 105) 0),o 111 (.ext (.t 105) 1),m 19 110,m 20 111]
def aax:=[m 113 7,m 114 7,o 115 (.call 52 [.t 113,.t 114]),m 112 115,o 116 (.ext (.t 112) 0),o 117 (.ext (.t 112) 1),m 21 116,m 22 117]
def aay:=[m 118 12,o 119 (.bin .neq (.t 118) (aj 0)),m 120 119,eK 121 14 120,on 122 (.bin .neq (.t 121) (aj 0)) 120,or 123 120 122,m 124 123,eK 125 16 124,on 126 (.bin .neq (.t 125) (aj 0)) 124,or 127 124 126,m 128 127,eK 129 18 128,on 130 (.bin .neq (.t 129) (aj 0)) 128,or 131 128 130,m 132 131,eK 133 20 132,on 134 (.bin .neq (.t 133) (aj 0)) 132,or 135 132 134,m 136 135,eK 137 22 136,on 138 (.bin .neq (.t 137) (aj 0)) 136,or 139 136 138,m 140 139,eK 141 11 140,eK 142 13 140,on 143 (.call 53 [.t 141,.t 142]) 140,on 144 (.un .not (.t 143)) 140,or 145 140 144,m 146 145,eK 147 15 146,eK 148 19 146,on 149 (.call 53 [.t 147,.t 148]) 146,on 150 (.un .not (.t 149)) 146,or 151 146 150,m 152 151,eK 153 15 152,eK 154 7 152,on 155 (.call 53 [.t 153,.t 154]) 152,on 156 (.un .not (.t 155)) 152,or 157 152 156,m 158 157,eK 159 21 158,eK 160 7 158,on 161 (.call 53 [.t 159,.t 160]) 158,on 162 (.un .not (.t 161)) 158,or 163 158 162]
def aaz:=[o 6 (.mv bt)]
def aaA:=[o 23 (.mv (.c (.nils 17)))]
def aaB:=[m 164 7,o 165 (.len (.t 164)),o 166 (.bin .sub (.t 165) (aj 1)),m 24 166]
def aaD:=[m 167 24,o 168 (.bin .geq (.t 167) (aj 0))]
def aaE:=[m 172 23,m 173 7,m 174 24,o 175 (.is 17 (.t 173) (.t 174)),ay 176 17 175,o 177 (.call 54 [.t 172,.t 176]),m 171 177,o 178 (.ext (.t 171) 0),o 179 (.ext (.t 171) 1),m 25 178,m 26 179]
def aaF:=[m 180 26,o 181 (.bin .neq (.t 180) (aj 0))]
def aaG:=[o 6 (.mv bt)]
def aaH:=[m 182 25,m 23 182]
def aaI:=[m 169 24,o 170 (.bin .sub (.t 169) (aj 1)),m 24 170]
def aaJ:=[m 183 23,m 184 7,o 185 (.call 53 [.t 183,.t 184]),m 186 185,bQ 187 (.call 22 []) 186,and 188 186 187,m 6 188]
def AZ:aM:=(s (r aaq) (s (r aar) (s (r aaC) (s (s (r aaK) (.block 0 (.loop (s (s (r EG) (.cond (.t 35) .skip (.exit 0))) (s (.block 1 (s (r aaL) (s (.bW XS wE) (s (r aaM) (.cond (.t 58) (.bW XT wF) .skip))))) (r aaN)))))) (s (r aas) (s (r aat) (s (r aau) (s (r aav) (s (r aaw) (s (r aax) (s (s (r aay) (.cond (.t 163) (s (r aaz) .ret) .skip)) (s (r aaA) (s (s (r aaB) (.block 2 (.loop (s (s (r aaD) (.cond (.t 168) .skip (.exit 2))) (s (.block 3 (s (r aaE) (s (s (r aaF) (.cond (.t 181) (s (r aaG) .ret) .skip)) (r aaH)))) (r aaI)))))) (s (r aaJ) .ret))))))))))))))
def L8:List bg:=[.tmp 6]
theorem TQ:bH Tryz.prog Tryz.f11 AZ:=e (by kernel_rfl)
theorem VX:bI Tryz.prog Tryz.f11 L8:=e (by kernel_rfl)
theorem RX:bG Tryz.prog 11:=e (by kernel_rfl)
def abu:=[b 4 0,o 8 (.mv (.c (.nils 1))),bd 9 0]
def abv:=[ay 13 7 4,o 14 (.call 66 [.t 13]),m 10 14]
def abx:=[m 15 10,o 16 (.bin .neq (.t 15) (aj 0))]
def aby:=[m 17 10,o 8 (.mv (.c (.nils 1))),m 9 17]
def abz:=[m 18 1,m 19 2,o 20 (.bld [.int .i64 0,.int .i64 0] [(0,(.t 19)),(1,(aj 9999))]),o 21 (.bs 2 [.t 20]),m 22 3,o 23 (.bs 1 [.t 22]),o 24 (.call 67 [.t 18,.t 21,.t 23]),m 11 24]
def abA:=[m 25 11,o 26 (.bin .neq (.t 25) (aj 0))]
def abB:=[m 27 11,o 8 (.mv (.c (.nils 1))),m 9 27]
def abC:=[m 28 1,m 29 3,o 30 (.call 68 [.t 28,.t 29]),o 31 (.nilC (.t 30)),f 32 0 0 31,l 33 32,m 34 2,o 35 (.lk (.i .i64) (.nilp) false (.t 33) (.t 34)),m 12 35]
def abD:=[m 36 12,o 37 (.ptrE false (.t 36) (.c (.nilp)))]
def abE:=[o 8 (.mv (.c (.nils 1))),bd 9 42]
def abw:=[ay 38 7 4,m 39 12,o 40 (.call 69 [.t 38,.t 39]),m 8 40,bd 9 0]
def Bo:aM:=(s (r abu) (s (s (r abv) (s (r abx) (.cond (.t 16) (s (r aby) .ret) .skip))) (s (s (r abz) (s (r abA) (.cond (.t 26) (s (r abB) .ret) .skip))) (s (r abC) (s (s (r abD) (.cond (.t 37) (s (r abE) .ret) .skip)) (s (r abw) .ret))))))
def Mv:List bg:=[.tmp 8,.tmp 9]
theorem Uf:bH Tryz.prog Tryz.f14 Bo:=e (by kernel_rfl)
theorem Wk:bI Tryz.prog Tryz.f14 Mv:=e (by kernel_rfl)
theorem Sk:bG Tryz.prog 14:=e (by kernel_rfl)
def abN:=[b 3 0,o 6 (.mv (.c (.nils 1))),bd 7 0]
def abO:=[ay 10 7 3,o 11 (.call 66 [.t 10]),m 8 11]
def abP:=[m 12 8,o 13 (.bin .neq (.t 12) (aj 0))]
def abQ:=[m 14 8,o 6 (.mv (.c (.nils 1))),m 7 14]
def abR:=[m 15 1,m 16 2,o 17 (.bs 1 [.t 16]),o 18 (.call 67 [.t 15,(.c (.nils 2)),.t 17]),m 9 18]
def abS:=[m 19 9,o 20 (.bin .neq (.t 19) (aj 0))]
def abT:=[m 21 9,o 6 (.mv (.c (.nils 1))),m 7 21]
def abU:=[m 22 1,m 23 2,o 24 (.call 68 [.t 22,.t 23]),o 25 (.mk 73 [.t 3]),o 26 (.call 72 [.t 24,.t 25]),m 6 26,bd 7 0]
def BB:aM:=(s (r abN) (s (s (r abO) (s (r abP) (.cond (.t 13) (s (r abQ) .ret) .skip))) (s (s (r abR) (s (r abS) (.cond (.t 20) (s (r abT) .ret) .skip))) (s (r abU) .ret))))
def MH:List bg:=[.tmp 6,.tmp 7]
theorem Ur:bH Tryz.prog Tryz.f16 BB:=e (by kernel_rfl)
theorem Ww:bI Tryz.prog Tryz.f16 MH:=e (by kernel_rfl)
theorem Sw:bG Tryz.prog 16:=e (by kernel_rfl)
def acG:=[b 4 0,o 8 (.mv (.c (.nils 2))),bd 9 0]
def acH:=[ay 17 7 4,m 18 1,m 19 2,m 20 3,o 21 (.call 14 [.t 17,.t 18,.t 19,.t 20]),m 16 21,o 22 (.ext (.t 16) 0),o 23 (.ext (.t 16) 1),m 10 22,m 11 23]
def acL:=[m 24 11,o 25 (.bin .neq (.t 24) (aj 0))]
def acM:=[m 26 11,o 8 (.mv (.c (.nils 2))),m 9 26]
def acN:=[m 27 1,m 28 3,o 29 (.call 68 [.t 27,.t 28]),o 30 (.nilC (.t 29)),f 31 0 0 30,l 32 31,m 33 2,o 34 (.lk (.i .i64) (.nilp) false (.t 32) (.t 33)),m 12 34]
def acO:=[o 13 (.mv (.c (.nils 2)))]
def acP:=[m 35 1,o 36 (.len (.t 35)),bd 37 0]
def acQ:=[lt 38 37 36]
def acR:=[m 39 37,o 40 (.is 17 (.t 35) (.t 37)),ay 41 17 40,o 15 (.alloc (.agg [.agg [.int .i64 0,.int .i64 0],.int .i64 0,.int .i64 0,.int .i64 0,.int .i64 0,.int .i64 0,.int .i64 0,.int .i64 0,.agg [.int .i64 0,.int .i64 0,.int .i64 0,.int .i64 0,.int .i64 0,.int .i64 0],.agg [.int .i64 0,.int .i64 0]])),m 14 39,p (.bu (some 17) (.t 15) (.t 41))]
def acS:=[ay 42 7 4,m 43 12,m 44 1,m 45 14,o 46 (.call 78 [.t 44,.t 45]),m 47 3,o 48 (.call 68 [.t 46,.t 47]),o 49 (.nilC (.t 48)),f 50 0 0 49,l 51 50,m 52 2,o 53 (.lk (.i .i64) (.nilp) false (.t 51) (.t 52)),o 54 (.call 77 [.t 42,.t 43,.t 53]),no 55 54]
def Ye:=some [[],[],[],[],[2,3],[],[4,5,4],[6],[7],[8],[],[9,10],[0,1,11,6],[12]]
def acI:=[m 56 13,f 57 0 0 15,ay 58 2 57,o 59 (.bs 2 [.t 58]),o 60 (.dC 65 2 16 (.agg [.int .i64 0,.int .i64 0]) (.t 56) (.t 59)),m 13 60]
def acJ:=[ad 61 37 1,m 37 61]
def acK:=[m 62 13,m 8 62,bd 9 0]
def BT:aM:=(s (r acG) (s (s (r acH) (s (r acL) (.cond (.t 25) (s (r acM) .ret) .skip))) (s (r acN) (s (r acO) (s (s (r acP) (.block 0 (.loop (s (r acQ) (s (.cond (.t 38) .skip (.exit 0)) (s (.block 1 (s (r acR) (s (.bW Ye acS) (.cond (.t 55) (r acI) .skip)))) (r acJ))))))) (s (r acK) .ret))))))
def M0:List bg:=[.tmp 8,.tmp 9]
theorem UJ:bH Tryz.prog Tryz.f18 BT:=e (by kernel_rfl)
theorem WQ:bI Tryz.prog Tryz.f18 M0:=e (by kernel_rfl)
theorem SN:bG Tryz.prog 18:=e (by kernel_rfl)
def HU:=[o 4 (.mv bt)]
def HV:=[m 6 0,o 7 (.len (.t 6)),m 8 1,o 9 (.len (.t 8)),o 10 (.bin .neq (.t 7) (.t 9))]
def HW:=[o 4 (.mv bt)]
def HX:=[bd 5 0]
def HY:=[m 11 5,m 12 0,o 13 (.len (.t 12)),lt 14 11 13]
def HZ:=[m 17 0,m 18 5,o 19 (.is 1 (.t 17) (.t 18)),l 20 19,m 21 1,m 22 5,o 23 (.is 1 (.t 21) (.t 22)),l 24 23,o 25 (.bin .neq (.t 20) (.t 24))]
def Yo:=some [[],[],[0,1],[2],[],[],[4,5],[6],[3,7]]
def H0:=[o 4 (.mv bt)]
def H2:=[m 15 5,ad 16 15 1,m 5 16]
def H3:=[o 4 (.mv T)]
def B3:aM:=(s (r HU) (s (s (r HV) (.cond (.t 10) (s (r HW) .ret) .skip)) (s (s (r HX) (.block 0 (.loop (s (s (r HY) (.cond (.t 14) .skip (.exit 0))) (s (.block 1 (s (.bW Yo HZ) (.cond (.t 25) (s (r H0) .ret) .skip))) (r H2)))))) (s (r H3) .ret))))
def M9:List bg:=[.tmp 4]
theorem UR:bH Tryz.prog Tryz.f20 B3:=e (by kernel_rfl)
theorem WY:bI Tryz.prog Tryz.f20 M9:=e (by kernel_rfl)
theorem SW:bG Tryz.prog 20:=e (by kernel_rfl)
def adv:=[o 4 (.mv bt)]
def adw:=[m 6 0,o 7 (.len (.t 6)),m 8 1,o 9 (.len (.t 8)),o 10 (.bin .neq (.t 7) (.t 9))]
def adx:=[o 4 (.mv bt)]
def ady:=[bd 5 0]
def adz:=[m 11 5,m 12 0,o 13 (.len (.t 12)),lt 14 11 13]
def adA:=[m 17 0,m 18 5,o 19 (.is 2 (.t 17) (.t 18)),ay 20 2 19,m 21 1,m 22 5,o 23 (.is 2 (.t 21) (.t 22)),ay 24 2 23,o 25 (.eqv (.bu [(.i .i64),(.i .i64)]) true (.t 20) (.t 24))]
def Yr:=some [[],[],[0,1],[2],[],[],[4,5],[6],[3,7]]
def adB:=[o 4 (.mv bt)]
def adC:=[m 15 5,ad 16 15 1,m 5 16]
def adD:=[o 4 (.mv T)]
def B6:aM:=(s (r adv) (s (s (r adw) (.cond (.t 10) (s (r adx) .ret) .skip)) (s (s (r ady) (.block 0 (.loop (s (s (r adz) (.cond (.t 14) .skip (.exit 0))) (s (.block 1 (s (.bW Yr adA) (.cond (.t 25) (s (r adB) .ret) .skip))) (r adC)))))) (s (r adD) .ret))))
def Nc:List bg:=[.tmp 4]
theorem UU:bH Tryz.prog Tryz.f21 B6:=e (by kernel_rfl)
theorem W3:bI Tryz.prog Tryz.f21 Nc:=e (by kernel_rfl)
theorem SZ:bG Tryz.prog 21:=e (by kernel_rfl)
def adE:=[o 0 (.mv bt)]
def adF:=[o 18 (.call 81 []),m 1 18]
def adI:=[o 19 (.call 82 []),o 2 (.alloc (.agg [.agg [.int .i64 0,.int .i64 0,.int .i64 0,.int .i64 0,.int .i64 0],.int .i64 0,.nils 7])),p (.bu (some 7) (.t 2) (.t 19))]
def adJ:=[m 21 1,o 22 (.call 27 [.t 21,(aj 10),(aj 6),(aj 7)]),m 20 22,o 23 (.ext (.t 20) 0),o 24 (.ext (.t 20) 1),m 3 23,m 4 24]
def adK:=[ay 26 7 2,m 27 1,o 28 (.call 14 [.t 26,.t 27,(aj 20),(aj 9)]),m 25 28,o 29 (.ext (.t 25) 0),o 30 (.ext (.t 25) 1),m 5 29,m 6 30]
def adL:=[ay 32 7 2,m 33 1,o 34 (.call 14 [.t 32,.t 33,(aj 20),(aj 14)]),m 31 34,o 35 (.ext (.t 31) 0),o 36 (.ext (.t 31) 1),m 7 35,m 8 36]
def adM:=[ay 38 7 2,m 39 1,o 40 (.call 16 [.t 38,.t 39,(aj 11)]),m 37 40,o 41 (.ext (.t 37) 0),o 42 (.ext (.t 37) 1),m 9 41,m 10 42]
def adN:=[m 44 1,o 45 (.call 28 [.t 44,(aj 2),(aj 3),(aj 7),(aj 7)]),m 43 45,o 46 (.ext (.t 43) 0),o 47 (.ext (.t 43) 1),m 11 46,m 12 47]
def adO:=[m 49 1,o 50 (.call 26 [.t 49,(aj 12),(aj 12)]),m 48 50,o 51 (.ext (.t 48) 0),o 52 (.ext (.t 48) 1),m 13 51,m 14 52]
def adP:=[ay 54 7 2,m 55 1,o 56 (.call 18 [.t 54,.t 55,(aj 20),(aj 9)]),m 53 56,o 57 (.ext (.t 53) 0),o 58 (.ext (.t 53) 1),m 15 57,m 16 58]
def adG:=[m 59 4,o 60 (.bin .eql (.t 59) (aj 0)),m 61 60,c8 62 6 61,bQ 63 (.bin .eql (.t 62) (aj 0)) 61,and 64 61 63,m 65 64,c8 66 8 65,bQ 67 (.bin .eql (.t 66) (aj 0)) 65,and 68 65 67,m 69 68,c8 70 10 69,bQ 71 (.bin .eql (.t 70) (aj 0)) 69,and 72 69 71,m 73 72,c8 74 12 73,bQ 75 (.bin .eql (.t 74) (aj 0)) 73,and 76 73 75,m 77 76,c8 78 14 77,bQ 79 (.bin .eql (.t 78) (aj 0)) 77,and 80 77 79,m 81 80,c8 82 16 81,bQ 83 (.bin .eql (.t 82) (aj 0)) 81,and 84 81 83,m 17 84]
def adH:=[m 85 17,m 86 85,c8 87 3 86,bQ 88 (.bin .eql (.t 87) (aj 2)) 86,and 89 86 88,m 90 89,c8 91 5 90,bQ 92 (.bs 1 [(aj 3)]) 90,bQ 93 (.call 20 [.t 91,.t 92]) 90,and 94 90 93,m 95 94,c8 96 7 95,bQ 97 (.bs 1 [(aj 1),(aj 2),(aj 3)]) 95,bQ 98 (.call 20 [.t 96,.t 97]) 95,and 99 95 98,m 100 99,c8 101 9 100,bQ 102 (.bs 1 [(aj 11)]) 100,bQ 103 (.call 20 [.t 101,.t 102]) 100,and 104 100 103,m 105 104,c8 106 11 105,bQ 107 (.bin .eql (.t 106) (aj 1)) 105,and 108 105 107,m 109 108,c8 110 13 109,bQ 111 (.bs 1 [(aj 11),(aj 20)]) 109,bQ 112 (.call 20 [.t 110,.t 111]) 109,and 113 109 112,m 114 113,c8 115 15 114,bQ 116 (.bld [.int .i64 0,.int .i64 0] [(1,(aj 2))]) 114,bQ 117 (.bld [.int .i64 0,.int .i64 0] [(1,(aj 5))]) 114,bQ 118 (.bs 2 [.t 116,.t 117]) 114,bQ 119 (.call 21 [.t 115,.t 118]) 114,and 120 114 119,m 0 120]
def Cb:aM:=(s (r adE) (s (r adF) (s (r adI) (s (r adJ) (s (r adK) (s (r adL) (s (r adM) (s (r adN) (s (r adO) (s (r adP) (s (r adG) (s (r adH) .ret))))))))))))
def Ni:List bg:=[.tmp 0]
theorem U0:bH Tryz.prog Tryz.f22 Cb:=e (by kernel_rfl)
theorem W8:bI Tryz.prog Tryz.f22 Ni:=e (by kernel_rfl)
theorem S4:bG Tryz.prog 22:=e (by kernel_rfl)
def adQ:=[b 3 0,o 6 (.mv (.c (.nils 17)))]
def adR:=[o 7 (.alloc (.agg [.int .i64 0,.int .i64 0,.int .i64 0]))]
def ad4:=[o 8 (.mv (.c (.nils 17)))]
def aea:=[bd 9 0]
def aeb:=[m 13 9,o 14 (.bin .lss (.t 13) (aj 3))]
def aec:=[bd 10 0]
def aed:=[m 17 10,m 18 1,o 19 (.len (.t 18)),lt 20 17 19,m 21 20,c8 22 10 21,bQ 23 (.bin .lss (.t 22) (aj 20)) 21,and 24 21 23]
def aee:=[m 27 1,m 28 10,o 29 (.is 9 (.t 27) (.t 28)),ay 30 9 29,o 11 (.alloc (.agg [.int .i64 0,.int .i64 0,.int .i64 0,.int .i64 0,.int .i64 0,.int .i64 0,.int .i64 0,.int .i64 0,.int .i64 0])),p (.bu (some 9) (.t 11) (.t 30))]
def aef:=[o 31 (.ia 9 1 (.t 11) (aj 0)),l 32 31,o 33 (.call 25 [.t 32,(aj 3)]),m 34 9,o 35 (.bin .neq (.t 33) (.t 34))]
def aeg:=[m 36 9,m 37 9,o 38 (.ia 3 1 (.t 7) (.t 37)),l 39 38,o 40 (.bld [.int .i64 0,.int .i64 0] [(0,(.t 36)),(1,(.t 39))]),o 41 (.ia 9 1 (.t 11) (aj 1)),l 42 41,o 43 (.call 25 [.t 42,(aj 7)]),o 44 (.ia 9 1 (.t 11) (aj 2)),l 45 44,o 46 (.call 25 [.t 45,(aj 30)]),o 47 (.ia 9 1 (.t 11) (aj 3)),l 48 47,o 49 (.call 25 [.t 48,(aj 40)]),o 50 (.ia 9 1 (.t 11) (aj 4)),l 51 50,o 52 (.call 25 [.t 51,(aj 6)]),o 53 (.bin .add (aj 1) (.t 52)),o 54 (.ia 9 1 (.t 11) (aj 5)),l 55 54,o 56 (.call 25 [.t 55,(aj 2)]),o 57 (.bin .add (aj 1) (.t 56)),o 58 (.ia 9 1 (.t 11) (aj 6)),l 59 58,o 60 (.call 25 [.t 59,(aj 12)]),o 61 (.bin .add (aj 1) (.t 60)),o 62 (.ia 9 1 (.t 11) (aj 7)),l 63 62,o 64 (.call 25 [.t 63,(aj 7)]),o 65 (.bld [.agg [.int .i64 0,.int .i64 0],.int .i64 0,.int .i64 0,.int .i64 0,.int .i64 0,.int .i64 0,.int .i64 0,.int .i64 0,.agg [.int .i64 0,.int .i64 0,.int .i64 0,.int .i64 0,.int .i64 0,.int .i64 0],.agg [.int .i64 0,.int .i64 0]] [(0,(.t 40)),(1,(.t 43)),(2,(.t 46)),(3,(.t 49)),(4,(.t 53)),(6,(.t 57)),(7,(.t 61)),(5,(.t 64))]),o 12 (.alloc (.agg [.agg [.int .i64 0,.int .i64 0],.int .i64 0,.int .i64 0,.int .i64 0,.int .i64 0,.int .i64 0,.int .i64 0,.int .i64 0,.agg [.int .i64 0,.int .i64 0,.int .i64 0,.int .i64 0,.int .i64 0,.int .i64 0],.agg [.int .i64 0,.int .i64 0]])),p (.bu (some 17) (.t 12) (.t 65))]
def Yu:=some [[],[],[1],[2],[0,3],[],[5],[6],[],[8],[9,7],[],[11],[12,10],[],[14],[15,13],[16],[],[18],[19,16],[20],[],[22],[23,20],[24],[],[26],[27,24],[4,7,10,13,17,21,25,28],[],[30,29,28,0,1,2,3,4,5,6,7,8,9,10,11,12,13,14,15,16,17,18,19,20,21,22,23,24,25,26,27,28,29,30]]
def adS:=[f 66 5 6 12,l 67 66,f 68 4 5 12,l 69 68,o 70 (.bin .eql (.t 67) (.t 69))]
def adT:=[f 71 5 6 12,p (.bu none (.t 71) (aj 0))]
def adU:=[f 72 1 2 12,l 73 72,o 74 (.bin .eql (.t 73) (aj 0))]
def adV:=[m 75 9,o 76 (.ia 3 1 (.t 7) (.t 75)),l 77 76,o 78 (.bin .eql (.t 77) (aj 0))]
def adW:=[f 79 2 3 12,p (.bu none (.t 79) (aj 0))]
def adX:=[m 80 9,o 81 (.ia 9 1 (.t 11) (aj 4)),l 82 81,m 83 9,o 84 (.ia 3 1 (.t 7) (.t 83)),l 85 84,o 86 (.call 25 [.t 82,.t 85]),o 87 (.bld [.int .i64 0,.int .i64 0] [(0,(.t 80)),(1,(.t 86))]),f 88 9 15 12,p (.bu (some 2) (.t 88) (.t 87))]
def Ys:=some [[],[],[1],[],[3],[4],[2,5],[0,6],[0,1,2,3,4,5,6,7],[8,7,6,0,1,2,3,4,5,6,7]]
def adY:=[f 89 1 2 12,l 90 89,o 91 (.bin .eql (.t 90) (aj 4))]
def adZ:=[o 92 (.bld [.int .i64 0,.int .i64 0,.int .i64 0,.int .i64 0,.int .i64 0,.int .i64 0] [(0,(aj 31)),(1,(aj 31)),(2,(aj 31)),(3,(aj 31)),(4,(aj 31)),(5,(aj 31))]),f 93 8 9 12,p (.bu (some 6) (.t 93) (.t 92))]
def ad0:=[f 94 2 6 3,l 95 94,o 96 (.len (.t 95)),o 97 (.bin .gtr (.t 96) (aj 0))]
def ad3:=[ay 98 7 3,f 99 2 6 3,l 100 99,o 101 (.ia 9 1 (.t 11) (aj 8)),l 102 101,f 103 2 6 3,l 104 103,o 105 (.len (.t 104)),o 106 (.call 25 [.t 102,.t 105]),o 107 (.is 7 (.t 100) (.t 106)),f 108 1 1 107,ay 109 6 108,m 110 2,m 111 10,o 112 (.call 83 [.t 110,.t 111]),o 113 (.call 35 [.t 98,.t 109,.t 112]),f 114 8 9 12,p (.bu (some 6) (.t 114) (.t 113))]
def Yt:=some [[],[],[1],[],[3],[],[5],[6],[4,7],[2,8],[9],[10],[],[],[12,13,8],[0,11,14,14],[0,1,2,3,4,5,6,7,8,9,10,11,12,13,14,15],[16,15,15,0,1,2,3,4,5,6,7,8,9,10,11,12,13,14,15]]
def ad5:=[m 115 8,ay 116 17 12,o 117 (.call 84 [.t 116]),o 118 (.bs 17 [.t 117]),o 119 (.dC 68 17 136 (.agg [.agg [.int .i64 0,.int .i64 0],.int .i64 0,.int .i64 0,.int .i64 0,.int .i64 0,.int .i64 0,.int .i64 0,.int .i64 0,.agg [.int .i64 0,.int .i64 0,.int .i64 0,.int .i64 0,.int .i64 0,.int .i64 0],.agg [.int .i64 0,.int .i64 0]]) (.t 115) (.t 118)),m 8 119]
def ad6:=[m 120 9,o 121 (.ia 3 1 (.t 7) (.t 120)),l 122 121,ad 123 122 1,o 124 (.ia 3 1 (.t 7) (.t 120)),p (.bu none (.t 124) (.t 123))]
def ad7:=[m 25 10,ad 26 25 1,m 10 26]
def ad8:=[m 15 9,ad 16 15 1,m 9 16]
def ad9:=[m 125 8,m 6 125]
def Cc:aM:=(s (r adQ) (s (r adR) (s (r ad4) (s (s (r aea) (.block 0 (.loop (s (s (r aeb) (.cond (.t 14) .skip (.exit 0))) (s (.block 1 (s (r aec) (.block 2 (.loop (s (s (r aed) (.cond (.t 24) .skip (.exit 2))) (s (.block 3 (s (r aee) (s (s (r aef) (.cond (.t 35) (.exit 3) .skip)) (s (.bW Yu aeg) (s (s (r adS) (.cond (.t 70) (r adT) .skip)) (s (s (r adU) (.cond (.t 74) (s (s (r adV) (.cond (.t 78) (.exit 3) .skip)) (s (r adW) (.bW Ys adX))) .skip)) (s (s (r adY) (.cond (.t 91) (s (r adZ) (s (r ad0) (.cond (.t 97) (.bW Yt ad3) .skip))) .skip)) (s (r ad5) (r ad6))))))))) (r ad7))))))) (r ad8)))))) (s (r ad9) .ret)))))
def Nj:List bg:=[.tmp 6]
theorem U1:bH Tryz.prog Tryz.f23 Cc:=e (by kernel_rfl)
theorem W9:bI Tryz.prog Tryz.f23 Nj:=e (by kernel_rfl)
theorem S5:bG Tryz.prog 23:=e (by kernel_rfl)
def Ij:=[o 2 (.alloc (.agg [.agg [.int .i64 0,.int .i64 0,.int .i64 0,.int .i64 0,.int .i64 0],.int .i64 0,.nils 7]))]
def Ik:=[m 7 0,o 8 (.call 85 [.t 7]),m 9 0,o 10 (.call 34 [.t 9,(aj 5)]),o 11 (.call 25 [.t 10,(aj 2)]),o 12 (.bld [.agg [.int .i64 0,.int .i64 0,.int .i64 0,.int .i64 0,.int .i64 0],.int .i64 0,.nils 7] [(0,(.t 8)),(1,(.t 11))]),o 3 (.alloc (.agg [.agg [.int .i64 0,.int .i64 0,.int .i64 0,.int .i64 0,.int .i64 0],.int .i64 0,.nils 7])),p (.bu (some 7) (.t 3) (.t 12))]
def Il:=[bd 4 0]
def Im:=[bd 5 0]
def Io:=[m 13 5,m 14 0,o 15 (.len (.t 14)),lt 16 13 15,m 17 16,c8 18 5 17,bQ 19 (.bin .lss (.t 18) (aj 12)) 17,and 20 17 19,m 21 20,dW 22 2 6 3 21,eI 23 22 21,bQ 24 (.len (.t 23)) 21,bQ 25 (.bin .lss (.t 24) (aj 9)) 21,and 26 21 25]
def Ip:=[m 29 4,m 30 0,m 31 5,o 32 (.is 1 (.t 30) (.t 31)),l 33 32,o 34 (.call 25 [.t 33,(aj 4)]),o 35 (.bin .add (aj 1) (.t 34)),o 36 (.bin .add (.t 29) (.t 35)),m 4 36]
def Iq:=[m 37 4,m 38 0,m 39 5,o 40 (.is 1 (.t 38) (.t 39)),l 41 40,o 42 (.bin .mul (.t 41) (aj 7)),m 43 5,o 44 (.bin .mul (.t 43) (aj 2503)),o 45 (.bin .add (.t 42) (.t 44)),o 46 (.call 25 [.t 45,(aj 15625)]),o 47 (.call 86 [.t 46]),o 48 (.bld [.int .i64 0,.agg [.int .i64 0,.int .i64 0,.int .i64 0,.int .i64 0,.int .i64 0,.int .i64 0]] [(0,(.t 37)),(1,(.t 47))]),o 6 (.alloc (.agg [.int .i64 0,.agg [.int .i64 0,.int .i64 0,.int .i64 0,.int .i64 0,.int .i64 0,.int .i64 0]])),p (.bu (some 7) (.t 6) (.t 48))]
def Ir:=[ay 49 7 3,f 50 1 1 6,ay 51 6 50,o 52 (.call 87 [.t 49,.t 51]),no 53 52]
def Is:=[f 54 2 6 3,l 55 54,ay 56 7 6,o 57 (.bs 7 [.t 56]),o 58 (.dC 63 7 56 (.agg [.int .i64 0,.agg [.int .i64 0,.int .i64 0,.int .i64 0,.int .i64 0,.int .i64 0,.int .i64 0]]) (.t 55) (.t 57)),f 59 2 6 3,p (.bu none (.t 59) (.t 58))]
def xk:=[m 27 5,ad 28 27 1,m 5 28]
def tk:=[ay 60 7 3,p (.bu (some 7) (.t 2) (.t 60))]
def Cd:aM:=(s (r Ij) (s (r Ik) (s (r Il) (s (s (r Im) (.block 0 (.loop (s (s (r Io) (.cond (.t 26) .skip (.exit 0))) (s (.block 1 (s (r Ip) (s (r Iq) (s (r Ir) (.cond (.t 53) (r Is) .skip))))) (r xk)))))) (s (r tk) .ret)))))
def Nk:List bg:=[.cell 2 (some 7)]
theorem U2:bH Tryz.prog Tryz.f24 Cd:=e (by kernel_rfl)
theorem Xa:bI Tryz.prog Tryz.f24 Nk:=e (by kernel_rfl)
theorem S6:bG Tryz.prog 24:=e (by kernel_rfl)
def It:=[bd 4 0]
def Iu:=[m 5 0,m 6 1,o 7 (.bin .rem (.t 5) (.t 6)),m 8 1,o 9 (.bin .add (.t 7) (.t 8)),m 10 1,o 11 (.bin .rem (.t 9) (.t 10)),m 4 11]
def Ce:aM:=(s (r It) (s (r Iu) .ret))
def Nl:List bg:=[.tmp 4]
theorem U3:bH Tryz.prog Tryz.f25 Ce:=e (by kernel_rfl)
theorem Xb:bI Tryz.prog Tryz.f25 Nl:=e (by kernel_rfl)
theorem S7:bG Tryz.prog 25:=e (by kernel_rfl)
def aeh:=[o 6 (.mv (.c (.nils 1))),bd 7 0]
def aei:=[m 11 0,m 12 1,m 13 2,o 14 (.bs 1 [.t 12,.t 13]),o 15 (.call 67 [.t 11,(.c (.nils 2)),.t 14]),m 8 15]
def aej:=[m 16 8,o 17 (.bin .neq (.t 16) (aj 0))]
def aek:=[m 18 8,o 6 (.mv (.c (.nils 1))),m 7 18]
def ael:=[m 20 0,m 21 1,m 22 2,o 23 (.call 88 [.t 20,.t 21,.t 22]),m 19 23,o 24 (.ext (.t 19) 0),o 25 (.ext (.t 19) 1),m 9 24,m 10 25]
def aem:=[m 26 9,o 27 (.call 72 [.t 26,(.c (.func 89 []))]),m 6 27,bd 7 0]
def Cf:aM:=(s (r aeh) (s (s (r aei) (s (r aej) (.cond (.t 17) (s (r aek) .ret) .skip))) (s (r ael) (s (r aem) .ret))))
def Nn:List bg:=[.tmp 6,.tmp 7]
theorem U4:bH Tryz.prog Tryz.f26 Cf:=e (by kernel_rfl)
theorem Xc:bI Tryz.prog Tryz.f26 Nn:=e (by kernel_rfl)
theorem S8:bG Tryz.prog 26:=e (by kernel_rfl)
def aen:=[bd 8 0,bd 9 0]
def aeo:=[m 14 0,m 15 1,o 16 (.bld [.int .i64 0,.int .i64 0] [(0,(.t 15)),(1,(aj 9999))]),o 17 (.bs 2 [.t 16]),m 18 2,m 19 3,o 20 (.bs 1 [.t 18,.t 19]),o 21 (.call 67 [.t 14,.t 17,.t 20]),m 10 21]
def aeq:=[m 22 10,o 23 (.bin .neq (.t 22) (aj 0))]
def aer:=[m 24 10,bd 8 0,m 9 24]
def aes:=[m 26 0,m 27 2,m 28 3,o 29 (.call 88 [.t 26,.t 27,.t 28]),m 25 29,o 30 (.ext (.t 25) 0),o 31 (.ext (.t 25) 1),m 11 30,m 12 31]
def aet:=[m 32 11,o 33 (.nilC (.t 32)),f 34 0 0 33,l 35 34,m 36 1,o 37 (.lk (.i .i64) (.nilp) false (.t 35) (.t 36)),m 13 37]
def aeu:=[m 39 13,o 40 (.ptrE false (.t 39) (.c (.nilp))),m 38 40]
def aev:=[bd 8 0,bd 9 42]
def aew:=[m 42 13,o 43 (.call 90 [.t 42]),m 41 43]
def aex:=[bd 8 0,bd 9 0]
def aep:=[m 44 13,o 45 (.nilC (.t 44)),f 46 0 0 45,f 47 3 3 46,l 48 47,m 8 48,bd 9 0]
def Cg:aM:=(s (r aen) (s (s (r aeo) (s (r aeq) (.cond (.t 23) (s (r aer) .ret) .skip))) (s (r aes) (s (r aet) (s (.block 0 (s (r aeu) (.cond (.t 38) (s (r aev) .ret) (s (r aew) (.cond (.t 41) (s (r aex) .ret) .skip))))) (s (r aep) .ret))))))
def Np:List bg:=[.tmp 8,.tmp 9]
theorem U5:bH Tryz.prog Tryz.f27 Cg:=e (by kernel_rfl)
theorem Xd:bI Tryz.prog Tryz.f27 Np:=e (by kernel_rfl)
theorem S9:bG Tryz.prog 27:=e (by kernel_rfl)
def aey:=[b 6 1,b 7 2,bd 10 0,bd 11 0]
def aez:=[m 15 0,l 16 6,o 17 (.bld [.int .i64 0,.int .i64 0] [(0,(.t 16)),(1,(aj 99))]),l 18 7,o 19 (.bld [.int .i64 0,.int .i64 0] [(0,(.t 18)),(1,(aj 9))]),o 20 (.bs 2 [.t 17,.t 19]),m 21 3,m 22 4,o 23 (.bs 1 [.t 21,.t 22]),o 24 (.call 67 [.t 15,.t 20,.t 23]),m 12 24]
def aeA:=[m 25 12,o 26 (.bin .neq (.t 25) (aj 0))]
def aeB:=[m 27 12,bd 10 0,m 11 27]
def aeC:=[m 29 0,m 30 3,m 31 4,o 32 (.call 88 [.t 29,.t 30,.t 31]),m 28 32,o 33 (.ext (.t 28) 0),o 34 (.ext (.t 28) 1),m 13 33,m 14 34]
def aeD:=[m 35 13,o 36 (.mk 91 [.t 6,.t 7]),o 37 (.call 72 [.t 35,.t 36]),o 38 (.len (.t 37)),m 10 38,bd 11 0]
def Ch:aM:=(s (r aey) (s (s (r aez) (s (r aeA) (.cond (.t 26) (s (r aeB) .ret) .skip))) (s (r aeC) (s (r aeD) .ret))))
def Nq:List bg:=[.tmp 10,.tmp 11]
theorem U6:bH Tryz.prog Tryz.f28 Ch:=e (by kernel_rfl)
theorem Xe:bI Tryz.prog Tryz.f28 Nq:=e (by kernel_rfl)
theorem Ta:bG Tryz.prog 28:=e (by kernel_rfl)
def Iv:=[bd 4 0]
def Iw:=[m 5 0,o 6 (.len (.t 5)),o 7 (.bin .eql (.t 6) (aj 0))]
def Iy:=[bd 4 0]
def Iz:=[m 8 0,m 9 1,m 10 0,o 11 (.len (.t 10)),o 12 (.call 25 [.t 9,.t 11]),o 13 (.is 1 (.t 8) (.t 12)),l 14 13,m 4 14]
def Ci:aM:=(s (r Iv) (s (s (r Iw) (.cond (.t 7) (s (r Iy) .ret) .skip)) (s (r Iz) .ret)))
def Nr:List bg:=[.tmp 4]
theorem U7:bH Tryz.prog Tryz.f34 Ci:=e (by kernel_rfl)
theorem Xf:bI Tryz.prog Tryz.f34 Nr:=e (by kernel_rfl)
theorem Tb:bG Tryz.prog 34:=e (by kernel_rfl)
def IA:=[b 3 0,b 4 1,o 6 (.alloc (.agg [.int .i64 0,.int .i64 0,.int .i64 0,.int .i64 0,.int .i64 0,.int .i64 0]))]
def IB:=[f 13 0 0 3,ay 14 5 13,ay 15 6 4,m 16 2,o 17 (.call 98 [.t 14,.t 15,.t 16]),m 12 17,o 18 (.ext (.t 12) 0),o 19 (.ext (.t 12) 1),o 7 (.alloc (.agg [.int .i64 0,.int .i64 0,.int .i64 0,.int .i64 0,.int .i64 0,.int .i64 0])),p (.bu (some 6) (.t 7) (.t 18)),m 8 19]
def IE:=[bd 9 0]
def IF:=[m 20 9,f 21 1 5 3,l 22 21,lt 23 20 22]
def IG:=[m 26 2,m 27 9,ad 28 27 2,o 29 (.call 34 [.t 26,.t 28]),o 30 (.call 25 [.t 29,(aj 6)]),m 31 2,m 32 9,ad 33 32 5,o 34 (.call 34 [.t 31,.t 33]),o 35 (.call 25 [.t 34,(aj 5)]),o 36 (.bin .shl (aj 1) (.t 35)),o 37 (.ia 6 1 (.t 7) (.t 30)),p (.bu none (.t 37) (.t 36))]
def IH:=[m 24 9,ad 25 24 1,m 9 25]
def II:=[bd 10 0]
def IJ:=[m 38 10,m 39 2,o 40 (.call 34 [.t 39,(aj 1)]),o 41 (.call 25 [.t 40,(aj 4)]),lt 42 38 41]
def IK:=[m 45 2,m 46 10,ad 47 46 7,o 48 (.call 34 [.t 45,.t 47]),o 49 (.call 25 [.t 48,(aj 6)]),m 11 49]
def IL:=[m 50 11,m 51 11,o 52 (.ia 6 1 (.t 7) (.t 51)),l 53 52,m 54 2,m 55 10,ad 56 55 3,o 57 (.call 34 [.t 54,.t 56]),o 58 (.call 25 [.t 57,(aj 32)]),o 59 (.bin .or (.t 53) (.t 58)),o 60 (.ia 6 1 (.t 7) (.t 50)),p (.bu none (.t 60) (.t 59))]
def Yv:=some [[],[],[1],[2],[],[],[5],[4,6],[7,7],[3,8],[0,0,1,2,3,4,5,6,7,8,9],[10,9,8,0,1,2,3,4,5,6,7,8,9]]
def IC:=[m 43 10,ad 44 43 1,m 10 44]
def ID:=[ay 61 6 7,p (.bu (some 6) (.t 6) (.t 61))]
def Cj:aM:=(s (r IA) (s (r IB) (s (s (r IE) (.block 0 (.loop (s (s (r IF) (.cond (.t 23) .skip (.exit 0))) (s (.block 1 (r IG)) (r IH)))))) (s (s (r II) (.block 2 (.loop (s (s (r IJ) (.cond (.t 42) .skip (.exit 2))) (s (.block 3 (s (r IK) (.bW Yv IL))) (r IC)))))) (s (r ID) .ret)))))
def Ns:List bg:=[.cell 6 (some 6)]
theorem U8:bH Tryz.prog Tryz.f35 Cj:=e (by kernel_rfl)
theorem Xg:bI Tryz.prog Tryz.f35 Ns:=e (by kernel_rfl)
theorem Tc:bG Tryz.prog 35:=e (by kernel_rfl)
def IM:=[o 4 (.mv bt)]
def IN:=[bd 5 0]
def IP:=[m 6 5,m 7 0,o 8 (.len (.t 7)),lt 9 6 8]
def IQ:=[m 12 0,m 13 5,o 14 (.is 1 (.t 12) (.t 13)),l 15 14,m 16 1,o 17 (.bin .eql (.t 15) (.t 16))]
def IS:=[o 4 (.mv T)]
def IT:=[m 10 5,ad 11 10 1,m 5 11]
def IU:=[o 4 (.mv bt)]
def Ck:aM:=(s (r IM) (s (s (r IN) (.block 0 (.loop (s (s (r IP) (.cond (.t 9) .skip (.exit 0))) (s (.block 1 (s (r IQ) (.cond (.t 17) (s (r IS) .ret) .skip))) (r IT)))))) (s (r IU) .ret)))
def Nt:List bg:=[.tmp 4]
theorem U9:bH Tryz.prog Tryz.f36 Ck:=e (by kernel_rfl)
theorem Xh:bI Tryz.prog Tryz.f36 Nt:=e (by kernel_rfl)
theorem Td:bG Tryz.prog 36:=e (by kernel_rfl)
def ae6:=[o 4 (.mv (.c (.nils 17))),bd 5 0]
def ae7:=[m 6 0,o 7 (.call 64 [.t 6]),o 8 (.bin .neq (.t 7) (aj 0)),m 9 8,eK 10 1 9,on 11 (.call 64 [.t 10]) 9,on 12 (.bin .neq (.t 11) (aj 0)) 9,or 13 9 12]
def ae8:=[o 4 (.mv (.c (.nils 17))),bd 5 41]
def ae9:=[m 14 0,m 15 1,o 16 (.call 112 [.t 14,.t 15]),o 17 (.ext (.t 16) 0),o 18 (.ext (.t 16) 1),m 4 17,m 5 18]
def Cl:aM:=(s (r ae6) (s (s (r ae7) (.cond (.t 13) (s (r ae8) .ret) .skip)) (s (r ae9) .ret)))
def Nv:List bg:=[.tmp 4,.tmp 5]
theorem Vb:bH Tryz.prog Tryz.f52 Cl:=e (by kernel_rfl)
theorem Xj:bI Tryz.prog Tryz.f52 Nv:=e (by kernel_rfl)
theorem Tf:bG Tryz.prog 52:=e (by kernel_rfl)
def afa:=[o 4 (.mv bt)]
def afb:=[m 6 0,o 7 (.len (.t 6)),m 8 1,o 9 (.len (.t 8)),o 10 (.bin .neq (.t 7) (.t 9))]
def afc:=[o 4 (.mv bt)]
def afd:=[bd 5 0]
def afe:=[m 11 5,m 12 0,o 13 (.len (.t 12)),lt 14 11 13]
def aff:=[m 17 0,m 18 5,o 19 (.is 17 (.t 17) (.t 18)),ay 20 17 19,m 21 1,m 22 5,o 23 (.is 17 (.t 21) (.t 22)),ay 24 17 23,o 25 (.eqv (.bu [(.bu [(.i .i64),(.i .i64)]),(.i .i64),(.i .i64),(.i .i64),(.i .i64),(.i .i64),(.i .i64),(.i .i64),(.jO 6 (.i .i64)),(.bu [(.i .i64),(.i .i64)])]) true (.t 20) (.t 24))]
def Yw:=some [[],[],[0,1],[2],[],[],[4,5],[6],[3,7]]
def afg:=[o 4 (.mv bt)]
def afh:=[m 15 5,ad 16 15 1,m 5 16]
def afi:=[o 4 (.mv T)]
def Cm:aM:=(s (r afa) (s (s (r afb) (.cond (.t 10) (s (r afc) .ret) .skip)) (s (s (r afd) (.block 0 (.loop (s (s (r afe) (.cond (.t 14) .skip (.exit 0))) (s (.block 1 (s (.bW Yw aff) (.cond (.t 25) (s (r afg) .ret) .skip))) (r afh)))))) (s (r afi) .ret))))
def Nw:List bg:=[.tmp 4]
theorem Vc:bH Tryz.prog Tryz.f53 Cm:=e (by kernel_rfl)
theorem Xk:bI Tryz.prog Tryz.f53 Nw:=e (by kernel_rfl)
theorem Tg:bG Tryz.prog 53:=e (by kernel_rfl)
def afj:=[b 3 1,o 4 (.mv (.c (.nils 17))),bd 5 0]
def afk:=[m 8 0,o 9 (.call 64 [.t 8]),m 6 9]
def afl:=[m 10 6,o 11 (.bin .neq (.t 10) (aj 0))]
def afm:=[m 12 6,o 4 (.mv (.c (.nils 17))),m 5 12]
def afn:=[ay 13 17 3,o 14 (.call 62 [.t 13]),m 7 14]
def afo:=[m 15 7,o 16 (.bin .neq (.t 15) (aj 0))]
def afp:=[m 17 7,o 4 (.mv (.c (.nils 17))),m 5 17]
def afq:=[m 18 0,ay 19 17 3,o 20 (.bs 17 [.t 19]),o 21 (.call 112 [.t 18,.t 20]),o 22 (.ext (.t 21) 0),o 23 (.ext (.t 21) 1),m 4 22,m 5 23]
def Cn:aM:=(s (r afj) (s (s (r afk) (s (r afl) (.cond (.t 11) (s (r afm) .ret) .skip))) (s (s (r afn) (s (r afo) (.cond (.t 16) (s (r afp) .ret) .skip))) (s (r afq) .ret))))
def Nx:List bg:=[.tmp 4,.tmp 5]
theorem Vd:bH Tryz.prog Tryz.f54 Cn:=e (by kernel_rfl)
theorem Xl:bI Tryz.prog Tryz.f54 Nx:=e (by kernel_rfl)
theorem Th:bG Tryz.prog 54:=e (by kernel_rfl)
def afr:=[b 1 0,bd 2 0]
def afs:=[ay 3 17 1,o 4 (.call 117 [.t 3]),no 5 4]
def aft:=[bd 2 40]
def afu:=[bd 2 0]
def Co:aM:=(s (r afr) (s (s (r afs) (.cond (.t 5) (s (r aft) .ret) .skip)) (s (r afu) .ret)))
def Ny:List bg:=[.tmp 2]
theorem Ve:bH Tryz.prog Tryz.f62 Co:=e (by kernel_rfl)
theorem Xm:bI Tryz.prog Tryz.f62 Ny:=e (by kernel_rfl)
theorem Ti:bG Tryz.prog 62:=e (by kernel_rfl)
def IV:=[bd 2 0]
def IW:=[m 5 0,o 6 (.len (.t 5)),o 7 (.bin .gtr (.t 6) (aj 60))]
def afv:=[bd 2 41]
def IX:=[m 8 0,o 9 (.len (.t 8)),bd 10 0]
def afw:=[lt 11 10 9]
def afx:=[m 12 10,o 13 (.is 17 (.t 8) (.t 10)),ay 14 17 13,o 4 (.alloc (.agg [.agg [.int .i64 0,.int .i64 0],.int .i64 0,.int .i64 0,.int .i64 0,.int .i64 0,.int .i64 0,.int .i64 0,.int .i64 0,.agg [.int .i64 0,.int .i64 0,.int .i64 0,.int .i64 0,.int .i64 0,.int .i64 0],.agg [.int .i64 0,.int .i64 0]])),m 3 12,p (.bu (some 17) (.t 4) (.t 14))]
def afy:=[ay 15 17 4,o 16 (.call 117 [.t 15]),no 17 16,m 18 17,eK 19 3 18,on 20 (.bin .gtr (.t 19) (aj 0)) 18,eK 21 20 18,c8 22 0 21,c8 23 3 21,bQ 24 (.bin .sub (.t 23) (aj 1)) 21,bQ 25 (.is 17 (.t 22) (.t 24)) 21,dW 26 0 0 25 21,bQ 27 (.ld (some 2) (.t 26)) 21,dW 28 0 0 4 21,bQ 29 (.ld (some 2) (.t 28)) 21,bQ 30 (.call 118 [.t 27,.t 29]) 21,bQ 31 (.bin .geq (.t 30) (aj 0)) 21,on 32 (.pick (.t 21) (.t 31) bt) 18,or 33 18 32]
def Yx:=some [[],[0],[1],[2,1],[3],[4,3],[5,3,3],[6],[6],[8,6],[7,9,6],[10,6],[11,6],[6],[13,6],[12,14,6,6],[15,6],[6,16,3],[3,17]]
def afz:=[bd 2 41]
def afA:=[ad 34 10 1,m 10 34]
def afB:=[bd 2 0]
def Cp:aM:=(s (r IV) (s (s (r IW) (.cond (.t 7) (s (r afv) .ret) .skip)) (s (s (r IX) (.block 0 (.loop (s (r afw) (s (.cond (.t 11) .skip (.exit 0)) (s (.block 1 (s (r afx) (s (.bW Yx afy) (.cond (.t 33) (s (r afz) .ret) .skip)))) (r afA))))))) (s (r afB) .ret))))
def Nz:List bg:=[.tmp 2]
theorem Vf:bH Tryz.prog Tryz.f64 Cp:=e (by kernel_rfl)
theorem Xn:bI Tryz.prog Tryz.f64 Nz:=e (by kernel_rfl)
theorem Tj:bG Tryz.prog 64:=e (by kernel_rfl)
def IY:=[b 1 0,bd 2 0]
def IZ:=[f 5 0 0 1,ay 6 5 5,o 7 (.call 120 [.t 6]),no 8 7,m 9 8,fn 10 1 5 1 9,mJ 11 10 9,on 12 (.call 121 [.t 11,(aj 0),(aj 2)]) 9,on 13 (.un .not (.t 12)) 9,or 14 9 13,m 15 14,fn 16 2 6 1 15,mJ 17 16 15,on 18 (.len (.t 17)) 15,on 19 (.bin .gtr (.t 18) (aj 40)) 15,or 20 15 19]
def tl:=[bd 2 13]
def I0:=[f 21 2 6 1,l 22 21,o 23 (.len (.t 22)),bd 24 0]
def I1:=[lt 25 24 23]
def I2:=[m 26 24,o 27 (.is 7 (.t 22) (.t 24)),ay 28 7 27,o 4 (.alloc (.agg [.int .i64 0,.agg [.int .i64 0,.int .i64 0,.int .i64 0,.int .i64 0,.int .i64 0,.int .i64 0]])),m 3 26,p (.bu (some 7) (.t 4) (.t 28))]
def I3:=[f 29 0 0 4,l 30 29,o 31 (.call 122 [.t 30]),no 32 31,m 33 32,fn 34 1 1 4 33,on 35 (.ld (some 6) (.t 34)) 33,on 36 (.call 123 [.t 35]) 33,on 37 (.un .not (.t 36)) 33,or 38 33 37,m 39 38,eK 40 3 39,on 41 (.bin .gtr (.t 40) (aj 0)) 39,eK 42 41 39,dW 43 2 6 1 42,eI 44 43 42,c8 45 3 42,bQ 46 (.bin .sub (.t 45) (aj 1)) 42,bQ 47 (.is 7 (.t 44) (.t 46)) 42,dW 48 0 0 47 42,eI 49 48 42,dW 50 0 0 4 42,eI 51 50 42,bQ 52 (.bin .geq (.t 49) (.t 51)) 42,on 53 (.pick (.t 42) (.t 52) bt) 39,or 54 39 53,m 55 54,on 56 (.ld (some 7) (.t 1)) 55,fn 57 2 6 1 55,mJ 58 57 55,eK 59 3 55,on 60 (.sl 7 (.t 58) none (some (.t 59)) none) 55,fn 61 1 1 4 55,on 62 (.ld (some 6) (.t 61)) 55,on 63 (.call 124 [.t 56,.t 60,.t 62]) 55,on 64 (.un .not (.t 63)) 55,or 65 55 64]
def Yy:=some [[],[0],[1],[2],[3,2],[4],[5,4],[6,4,4],[7,4],[4,8],[9,7],[10],[11,10],[12,10,10],[13],[14,13],[13],[16,13],[15,17,13],[18,13],[19,13],[13],[21,13],[20,22,13],[13,23,10],[10,24],[25,13],[26],[26],[28,26],[26],[29,30,26],[26],[32,26],[27,31,33,26,26],[34,26],[26,35]]
def pO:=[bd 2 13]
def xl:=[ad 66 24 1,m 24 66]
def I4:=[bd 2 0]
def Cq:aM:=(s (r IY) (s (s (r IZ) (.cond (.t 20) (s (r tl) .ret) .skip)) (s (s (r I0) (.block 0 (.loop (s (r I1) (s (.cond (.t 25) .skip (.exit 0)) (s (.block 1 (s (r I2) (s (.bW Yy I3) (.cond (.t 65) (s (r pO) .ret) .skip)))) (r xl))))))) (s (r I4) .ret))))
def NA:List bg:=[.tmp 2]
theorem Vg:bH Tryz.prog Tryz.f66 Cq:=e (by kernel_rfl)
theorem Xo:bI Tryz.prog Tryz.f66 NA:=e (by kernel_rfl)
theorem Tk:bG Tryz.prog 66:=e (by kernel_rfl)
def afC:=[bd 6 0]
def afD:=[m 10 0,o 11 (.call 64 [.t 10]),m 7 11]
def afH:=[m 12 7,o 13 (.bin .neq (.t 12) (aj 0))]
def afI:=[m 14 7,m 6 14]
def afJ:=[m 15 1,o 16 (.len (.t 15)),bd 17 0]
def afK:=[lt 18 17 16]
def afL:=[o 19 (.is 2 (.t 15) (.t 17)),ay 20 2 19,o 9 (.alloc (.agg [.int .i64 0,.int .i64 0])),p (.bu (some 2) (.t 9) (.t 20))]
def afM:=[o 21 (.ia 2 1 (.t 9) (aj 0)),l 22 21,o 23 (.ia 2 1 (.t 9) (aj 1)),l 24 23,o 25 (.call 114 [.t 22,(aj 1),.t 24]),no 26 25]
def afN:=[bd 6 1]
def afO:=[ad 27 17 1,m 17 27]
def afE:=[m 28 2,o 29 (.call 125 [.t 28,(.c (.func 126 []))])]
def afF:=[bd 6 6]
def afG:=[bd 6 0]
def Cr:aM:=(s (r afC) (s (s (r afD) (s (r afH) (.cond (.t 13) (s (r afI) .ret) .skip))) (s (s (r afJ) (.block 0 (.loop (s (r afK) (s (.cond (.t 18) .skip (.exit 0)) (s (.block 1 (s (r afL) (s (r afM) (.cond (.t 26) (s (r afN) .ret) .skip)))) (r afO))))))) (s (s (r afE) (.cond (.t 29) (s (r afF) .ret) .skip)) (s (r afG) .ret)))))
def NB:List bg:=[.tmp 6]
theorem Vh:bH Tryz.prog Tryz.f67 Cr:=e (by kernel_rfl)
theorem Xp:bI Tryz.prog Tryz.f67 NB:=e (by kernel_rfl)
theorem Tl:bG Tryz.prog 67:=e (by kernel_rfl)
def afP:=[o 4 (.mv (.c (.nilp)))]
def afQ:=[m 8 0,m 9 1,o 10 (.call 88 [.t 8,(aj 100000),.t 9]),m 7 10,o 11 (.ext (.t 7) 0),o 12 (.ext (.t 7) 1),m 5 11,m 6 12]
def afR:=[m 13 5,m 4 13]
def Cs:aM:=(s (r afP) (s (r afQ) (s (r afR) .ret)))
def NC:List bg:=[.tmp 4]
theorem Vi:bH Tryz.prog Tryz.f68 Cs:=e (by kernel_rfl)
theorem Xq:bI Tryz.prog Tryz.f68 NC:=e (by kernel_rfl)
theorem Tm:bG Tryz.prog 68:=e (by kernel_rfl)
def afS:=[b 2 0,o 4 (.mv (.c (.nils 1)))]
def afT:=[ay 8 7 2,m 9 1,o 10 (.nilC (.t 9)),f 11 0 0 10,f 12 8 8 11,l 13 12,o 14 (.call 128 [.t 8,.t 13]),m 7 14,o 15 (.ext (.t 7) 0),o 16 (.ext (.t 7) 1),m 5 15,m 6 16]
def Yz:=some [[],[],[1],[2],[3],[4],[0,5],[6],[7],[7],[8,6,0,1,2,3,4,5,6,7,8],[9,10,0,1,2,3,4,5,6,7,8,9,10]]
def afU:=[m 17 5,m 4 17]
def Ct:aM:=(s (r afS) (s (.bW Yz afT) (s (r afU) .ret)))
def ND:List bg:=[.tmp 4]
theorem Vj:bH Tryz.prog Tryz.f69 Ct:=e (by kernel_rfl)
theorem Xr:bI Tryz.prog Tryz.f69 ND:=e (by kernel_rfl)
theorem Tn:bG Tryz.prog 69:=e (by kernel_rfl)
def I5:=[o 4 (.mv (.c (.nils 1)))]
def I6:=[o 5 (.mv (.c (.nils 1)))]
def I7:=[m 8 0,o 9 (.nilC (.t 8)),f 10 0 0 9,l 11 10,o 12 (.kF (.t 11))]
def xm:=[o 13 (.jD (.t 12)),o 14 (.ext (.t 13) 0)]
def I8:=[o 15 (.ent (.t 12)),o 16 (.ext (.t 15) 0),o 17 (.ext (.t 15) 1),m 6 16,m 7 17]
def I9:=[m 18 1,m 19 7,o 20 (.eD (.t 18) [.t 19])]
def afV:=[m 21 5,m 22 6,o 23 (.bs 1 [.t 22]),o 24 (.dC 3 1 8 (.int .i64 0) (.t 21) (.t 23)),m 5 24]
def afW:=[m 25 5,o 26 (.call 107 [.t 25])]
def afX:=[m 27 5,m 4 27]
def Cu:aM:=(s (r I5) (s (r I6) (s (s (r I7) (.block 0 (.loop (s (r xm) (s (.cond (.t 14) .skip (.exit 0)) (.block 1 (s (r I8) (s (r I9) (.cond (.t 20) (r afV) .skip))))))))) (s (r afW) (s (r afX) .ret)))))
def NF:List bg:=[.tmp 4]
theorem Vk:bH Tryz.prog Tryz.f72 Cu:=e (by kernel_rfl)
theorem Xs:bI Tryz.prog Tryz.f72 NF:=e (by kernel_rfl)
theorem Tp:bG Tryz.prog 72:=e (by kernel_rfl)
def afY:=[o 3 (.mv bt)]
def afZ:=[m 4 0,o 5 (.nilC (.t 4)),f 6 0 0 5,f 7 4 4 6,l 8 7,o 9 (.bin .gtr (.t 8) (aj 0)),m 10 9,bQ 11 (.ld (some 7) (.t 1)) 10,c8 12 0 10,bQ 13 (.call 69 [.t 11,.t 12]) 10,c8 14 0 10,bQ 15 (.nilC (.t 14)) 10,dW 16 0 0 15 10,dW 17 4 4 16 10,eI 18 17 10,bQ 19 (.call 74 [.t 13,.t 18]) 10,bQ 20 (.un .not (.t 19)) 10,and 21 10 20,m 3 21]
def YA:=some [[],[0],[1],[2],[3],[4],[5],[6],[6],[7,8,6,6],[6],[10,6],[11,6],[12,6],[13,6],[9,14,9,6],[15,6],[6,16],[17,15,0,1,2,3,4,5,6,7,8,9,10,11,12,13,14,15,16,17]]
def Cv:aM:=(s (r afY) (s (.bW YA afZ) .ret))
def NG:List bg:=[.tmp 3]
theorem Vl:bH Tryz.prog Tryz.f73 Cv:=e (by kernel_rfl)
theorem Xt:bI Tryz.prog Tryz.f73 NG:=e (by kernel_rfl)
theorem Tq:bG Tryz.prog 73:=e (by kernel_rfl)
def af0:=[o 4 (.mv bt)]
def af1:=[m 5 0,m 6 1,o 7 (.call 131 [.t 5,.t 6]),o 8 (.bin .geq (.t 7) (aj 0)),m 4 8]
def Cw:aM:=(s (r af0) (s (r af1) .ret))
def NH:List bg:=[.tmp 4]
theorem Vm:bH Tryz.prog Tryz.f74 Cw:=e (by kernel_rfl)
theorem Xu:bI Tryz.prog Tryz.f74 NH:=e (by kernel_rfl)
theorem Tr:bG Tryz.prog 74:=e (by kernel_rfl)
def af2:=[b 3 0,o 6 (.mv bt)]
def af3:=[m 8 1,o 9 (.ptrE false (.t 8) (.c (.nilp))),m 10 9,eK 11 2 10,on 12 (.ptrE false (.t 11) (.c (.nilp))) 10,or 13 10 12]
def af4:=[m 14 1,m 15 2,o 16 (.ptrE false (.t 14) (.t 15)),m 6 16]
def af5:=[o 7 (.mv (.c (.func 133 [])))]
def af6:=[m 17 7,m 18 1,o 19 (.eD (.t 17) [.t 18]),m 20 7,m 21 2,o 22 (.eD (.t 20) [.t 21]),o 23 (.eqv (.jO 8 (.i .i64)) false (.t 19) (.t 22)),m 24 23,bQ 25 (.ld (some 7) (.t 3)) 24,c8 26 1 24,bQ 27 (.call 69 [.t 25,.t 26]) 24,bQ 28 (.ld (some 7) (.t 3)) 24,c8 29 2 24,bQ 30 (.call 69 [.t 28,.t 29]) 24,bQ 31 (.call 134 [.t 27,.t 30]) 24,and 32 24 31,m 6 32]
def YB:=some [[],[],[0,1],[],[],[3,4,2],[2,5],[6,5],[7],[7],[8,9,7,7],[7],[7],[11,12,10,7],[10,13,13,7],[7,14],[15,14,0,1,2,3,4,5,6,7,8,9,10,11,12,13,14,15]]
def sL:aM:=(s (r af2) (s (s (r af3) (.cond (.t 13) (s (r af4) .ret) .skip)) (s (r af5) (s (.bW YB af6) .ret))))
def ux:List bg:=[.tmp 6]
theorem vJ:bH Tryz.prog Tryz.f77 sL:=e (by kernel_rfl)
theorem vV:bI Tryz.prog Tryz.f77 ux:=e (by kernel_rfl)
theorem vG:bG Tryz.prog 77:=e (by kernel_rfl)
def Ja:=[o 4 (.mv (.c (.nils 17)))]
def Jb:=[m 5 0,o 6 (.call 136 [.t 5]),m 7 1,m 8 1,ad 9 8 1,o 10 (.call 135 [.t 6,.t 7,.t 9]),m 4 10]
def Cx:aM:=(s (r Ja) (s (r Jb) .ret))
def NI:List bg:=[.tmp 4]
theorem Vn:bH Tryz.prog Tryz.f78 Cx:=e (by kernel_rfl)
theorem Xv:bI Tryz.prog Tryz.f78 NI:=e (by kernel_rfl)
theorem Ts:bG Tryz.prog 78:=e (by kernel_rfl)
def Jc:=[o 0 (.mv (.c (.nils 17)))]
def Jd:=[o 1 (.bld [.agg [.int .i64 0,.int .i64 0],.int .i64 0,.int .i64 0,.int .i64 0,.int .i64 0,.int .i64 0,.int .i64 0,.int .i64 0,.agg [.int .i64 0,.int .i64 0,.int .i64 0,.int .i64 0,.int .i64 0,.int .i64 0],.agg [.int .i64 0,.int .i64 0]] [(1,(aj 1)),(2,(aj 1)),(3,(aj 1)),(4,(aj 10)),(6,(aj 3)),(7,(aj 2))]),o 2 (.bld [.int .i64 0,.int .i64 0] [(1,(aj 1))]),o 3 (.bld [.agg [.int .i64 0,.int .i64 0],.int .i64 0,.int .i64 0,.int .i64 0,.int .i64 0,.int .i64 0,.int .i64 0,.int .i64 0,.agg [.int .i64 0,.int .i64 0,.int .i64 0,.int .i64 0,.int .i64 0,.int .i64 0],.agg [.int .i64 0,.int .i64 0]] [(0,(.t 2)),(1,(aj 1)),(2,(aj 5)),(3,(aj 5)),(4,(aj 11)),(6,(aj 3)),(7,(aj 2)),(5,(aj 10))]),o 4 (.bld [.int .i64 0,.int .i64 0] [(1,(aj 2))]),o 5 (.bld [.agg [.int .i64 0,.int .i64 0],.int .i64 0,.int .i64 0,.int .i64 0,.int .i64 0,.int .i64 0,.int .i64 0,.int .i64 0,.agg [.int .i64 0,.int .i64 0,.int .i64 0,.int .i64 0,.int .i64 0,.int .i64 0],.agg [.int .i64 0,.int .i64 0]] [(0,(.t 4)),(1,(aj 2)),(2,(aj 6)),(3,(aj 6)),(4,(aj 20)),(6,(aj 3))]),o 6 (.bld [.int .i64 0,.int .i64 0] [(1,(aj 3))]),o 7 (.bld [.int .i64 0,.int .i64 0,.int .i64 0,.int .i64 0,.int .i64 0,.int .i64 0] [(0,(aj 31)),(1,(aj 1)),(2,(aj 1)),(3,(aj 1)),(4,(aj 1)),(5,(aj 31))]),o 8 (.bld [.agg [.int .i64 0,.int .i64 0],.int .i64 0,.int .i64 0,.int .i64 0,.int .i64 0,.int .i64 0,.int .i64 0,.int .i64 0,.agg [.int .i64 0,.int .i64 0,.int .i64 0,.int .i64 0,.int .i64 0,.int .i64 0],.agg [.int .i64 0,.int .i64 0]] [(0,(.t 6)),(1,(aj 4)),(2,(aj 6)),(3,(aj 6)),(4,(aj 20)),(8,(.t 7))]),o 9 (.bld [.int .i64 0,.int .i64 0] [(1,(aj 4))]),o 10 (.bld [.agg [.int .i64 0,.int .i64 0],.int .i64 0,.int .i64 0,.int .i64 0,.int .i64 0,.int .i64 0,.int .i64 0,.int .i64 0,.agg [.int .i64 0,.int .i64 0,.int .i64 0,.int .i64 0,.int .i64 0,.int .i64 0],.agg [.int .i64 0,.int .i64 0]] [(0,(.t 9)),(1,(aj 3)),(2,(aj 7)),(3,(aj 7)),(4,(aj 10)),(7,(aj 1))]),o 11 (.bld [.int .i64 0,.int .i64 0] [(1,(aj 5))]),o 12 (.bld [.int .i64 0,.int .i64 0,.int .i64 0,.int .i64 0,.int .i64 0,.int .i64 0] [(0,(aj 24)),(1,(aj 1)),(2,(aj 1)),(3,(aj 1)),(4,(aj 1)),(5,(aj 31))]),o 13 (.bld [.agg [.int .i64 0,.int .i64 0],.int .i64 0,.int .i64 0,.int .i64 0,.int .i64 0,.int .i64 0,.int .i64 0,.int .i64 0,.agg [.int .i64 0,.int .i64 0,.int .i64 0,.int .i64 0,.int .i64 0,.int .i64 0],.agg [.int .i64 0,.int .i64 0]] [(0,(.t 11)),(1,(aj 4)),(2,(aj 6)),(3,(aj 9)),(4,(aj 20)),(8,(.t 12))]),o 14 (.bld [.int .i64 0,.int .i64 0] [(1,(aj 6))]),o 15 (.bld [.agg [.int .i64 0,.int .i64 0],.int .i64 0,.int .i64 0,.int .i64 0,.int .i64 0,.int .i64 0,.int .i64 0,.int .i64 0,.agg [.int .i64 0,.int .i64 0,.int .i64 0,.int .i64 0,.int .i64 0,.int .i64 0],.agg [.int .i64 0,.int .i64 0]] [(0,(.t 14)),(1,(aj 5)),(2,(aj 10)),(3,(aj 10)),(4,(aj 20)),(7,(aj 3))]),o 16 (.bld [.int .i64 0,.int .i64 0] [(1,(aj 7))]),o 17 (.bld [.int .i64 0,.int .i64 0,.int .i64 0,.int .i64 0,.int .i64 0,.int .i64 0] [(0,(aj 1)),(1,(aj 1)),(2,(aj 1)),(3,(aj 1)),(4,(aj 1)),(5,(aj 1))]),o 18 (.bld [.agg [.int .i64 0,.int .i64 0],.int .i64 0,.int .i64 0,.int .i64 0,.int .i64 0,.int .i64 0,.int .i64 0,.int .i64 0,.agg [.int .i64 0,.int .i64 0,.int .i64 0,.int .i64 0,.int .i64 0,.int .i64 0],.agg [.int .i64 0,.int .i64 0]] [(0,(.t 16)),(1,(aj 4)),(2,(aj 8)),(3,(aj 11)),(4,(aj 11)),(8,(.t 17))]),o 19 (.bld [.int .i64 0,.int .i64 0] [(1,(aj 8))]),o 20 (.bld [.agg [.int .i64 0,.int .i64 0],.int .i64 0,.int .i64 0,.int .i64 0,.int .i64 0,.int .i64 0,.int .i64 0,.int .i64 0,.agg [.int .i64 0,.int .i64 0,.int .i64 0,.int .i64 0,.int .i64 0,.int .i64 0],.agg [.int .i64 0,.int .i64 0]] [(0,(.t 19)),(1,(aj 6)),(2,(aj 12)),(3,(aj 12)),(4,(aj 10))]),o 21 (.bld [.int .i64 0,.int .i64 0] [(1,(aj 9))]),o 22 (.bld [.int .i64 0,.int .i64 0] [(1,(aj 5))]),o 23 (.bld [.agg [.int .i64 0,.int .i64 0],.int .i64 0,.int .i64 0,.int .i64 0,.int .i64 0,.int .i64 0,.int .i64 0,.int .i64 0,.agg [.int .i64 0,.int .i64 0,.int .i64 0,.int .i64 0,.int .i64 0,.int .i64 0],.agg [.int .i64 0,.int .i64 0]] [(0,(.t 21)),(1,(aj 0)),(3,(aj 14)),(9,(.t 22))]),o 24 (.bs 17 [.t 1,.t 3,.t 5,.t 8,.t 10,.t 13,.t 15,.t 18,.t 20,.t 23]),m 0 24]
def Cy:aM:=(s (r Jc) (s (r Jd) .ret))
def NJ:List bg:=[.tmp 0]
theorem Vo:bH Tryz.prog Tryz.f81 Cy:=e (by kernel_rfl)
theorem Xw:bI Tryz.prog Tryz.f81 NJ:=e (by kernel_rfl)
theorem Tt:bG Tryz.prog 81:=e (by kernel_rfl)
def Je:=[o 0 (.alloc (.agg [.agg [.int .i64 0,.int .i64 0,.int .i64 0,.int .i64 0,.int .i64 0],.int .i64 0,.nils 7]))]
def Jf:=[o 1 (.bld [.int .i64 0,.int .i64 0,.int .i64 0,.int .i64 0,.int .i64 0] [(0,(aj 1)),(1,(aj 3)),(2,(aj 4)),(3,(aj 24)),(4,(aj 24))]),o 2 (.bld [.int .i64 0,.agg [.int .i64 0,.int .i64 0,.int .i64 0,.int .i64 0,.int .i64 0,.int .i64 0]] [(0,(aj 1))]),o 3 (.bld [.int .i64 0,.int .i64 0,.int .i64 0,.int .i64 0,.int .i64 0,.int .i64 0] [(0,(aj 2)),(1,(aj 0)),(2,(aj 0)),(3,(aj 0)),(4,(aj 0)),(5,(aj 0))]),o 4 (.bld [.int .i64 0,.agg [.int .i64 0,.int .i64 0,.int .i64 0,.int .i64 0,.int .i64 0,.int .i64 0]] [(0,(aj 2)),(1,(.t 3))]),o 5 (.bld [.int .i64 0,.int .i64 0,.int .i64 0,.int .i64 0,.int .i64 0,.int .i64 0] [(0,(aj 3)),(1,(aj 0)),(2,(aj 0)),(3,(aj 0)),(4,(aj 0)),(5,(aj 2))]),o 6 (.bld [.int .i64 0,.agg [.int .i64 0,.int .i64 0,.int .i64 0,.int .i64 0,.int .i64 0,.int .i64 0]] [(0,(aj 3)),(1,(.t 5))]),o 7 (.bs 7 [.t 2,.t 4,.t 6]),o 8 (.bld [.agg [.int .i64 0,.int .i64 0,.int .i64 0,.int .i64 0,.int .i64 0],.int .i64 0,.nils 7] [(0,(.t 1)),(2,(.t 7))]),p (.bu (some 7) (.t 0) (.t 8))]
def Cz:aM:=(s (r Je) (s (r Jf) .ret))
def NK:List bg:=[.cell 0 (some 7)]
theorem Vp:bH Tryz.prog Tryz.f82 Cz:=e (by kernel_rfl)
theorem Xx:bI Tryz.prog Tryz.f82 NK:=e (by kernel_rfl)
theorem Tu:bG Tryz.prog 82:=e (by kernel_rfl)
def af7:=[o 4 (.mv (.c (.nils 1)))]
def af8:=[o 5 (.mv (.c (.nils 1)))]
def af9:=[bd 6 0]
def aga:=[m 7 6,m 8 0,o 9 (.len (.t 8)),lt 10 7 9]
def agb:=[m 13 5,m 14 0,m 15 6,m 16 1,o 17 (.bin .add (.t 15) (.t 16)),o 18 (.call 34 [.t 14,.t 17]),m 19 1,o 20 (.bin .add (.t 18) (.t 19)),o 21 (.bs 1 [.t 20]),o 22 (.dC 3 1 8 (.int .i64 0) (.t 13) (.t 21)),m 5 22]
def agc:=[m 11 6,ad 12 11 1,m 6 12]
def agd:=[m 23 5,m 4 23]
def CA:aM:=(s (r af7) (s (r af8) (s (s (r af9) (.block 0 (.loop (s (s (r aga) (.cond (.t 10) .skip (.exit 0))) (s (.block 1 (r agb)) (r agc)))))) (s (r agd) .ret))))
def NL:List bg:=[.tmp 4]
theorem Vq:bH Tryz.prog Tryz.f83 CA:=e (by kernel_rfl)
theorem Xy:bI Tryz.prog Tryz.f83 NL:=e (by kernel_rfl)
theorem Tv:bG Tryz.prog 83:=e (by kernel_rfl)
def age:=[b 1 0,o 2 (.alloc (.agg [.agg [.int .i64 0,.int .i64 0],.int .i64 0,.int .i64 0,.int .i64 0,.int .i64 0,.int .i64 0,.int .i64 0,.int .i64 0,.agg [.int .i64 0,.int .i64 0,.int .i64 0,.int .i64 0,.int .i64 0,.int .i64 0],.agg [.int .i64 0,.int .i64 0]]))]
def agf:=[f 4 0 0 1,ay 5 2 4,f 6 1 2 1,l 7 6,f 8 2 3 1,l 9 8,f 10 3 4 1,l 11 10,o 12 (.bld [.agg [.int .i64 0,.int .i64 0],.int .i64 0,.int .i64 0,.int .i64 0,.int .i64 0,.int .i64 0,.int .i64 0,.int .i64 0,.agg [.int .i64 0,.int .i64 0,.int .i64 0,.int .i64 0,.int .i64 0,.int .i64 0],.agg [.int .i64 0,.int .i64 0]] [(0,(.t 5)),(1,(.t 7)),(2,(.t 9)),(3,(.t 11))]),o 3 (.alloc (.agg [.agg [.int .i64 0,.int .i64 0],.int .i64 0,.int .i64 0,.int .i64 0,.int .i64 0,.int .i64 0,.int .i64 0,.int .i64 0,.agg [.int .i64 0,.int .i64 0,.int .i64 0,.int .i64 0,.int .i64 0,.int .i64 0],.agg [.int .i64 0,.int .i64 0]])),p (.bu (some 17) (.t 3) (.t 12))]
def agq:=[f 13 1 2 1,l 14 13,o 15 (.bin .eql (.t 14) (aj 0))]
def agr:=[f 16 9 15 1,ay 17 2 16,f 18 9 15 3,p (.bu (some 2) (.t 18) (.t 17))]
def ags:=[ay 19 17 3,p (.bu (some 17) (.t 2) (.t 19))]
def agt:=[f 20 4 5 1,l 21 20,f 22 4 5 3,p (.bu none (.t 22) (.t 21))]
def agu:=[f 23 1 2 1,l 24 23]
def agv:=[o 26 (.bin .eql (.t 24) (aj 1)),m 25 26]
def agw:=[f 27 6 7 1,l 28 27,f 29 6 7 3,p (.bu none (.t 29) (.t 28))]
def agx:=[f 30 7 8 1,l 31 30,f 32 7 8 3,p (.bu none (.t 32) (.t 31))]
def agh:=[f 33 5 6 1,l 34 33,f 35 5 6 3,p (.bu none (.t 35) (.t 34))]
def agi:=[o 37 (.bin .eql (.t 24) (aj 2)),m 36 37]
def agj:=[f 38 6 7 1,l 39 38,f 40 6 7 3,p (.bu none (.t 40) (.t 39))]
def agk:=[o 42 (.bin .eql (.t 24) (aj 3)),m 41 42]
def agl:=[o 43 (.bin .eql (.t 24) (aj 5)),m 41 43]
def agm:=[f 44 7 8 1,l 45 44,f 46 7 8 3,p (.bu none (.t 46) (.t 45))]
def agn:=[o 48 (.bin .eql (.t 24) (aj 4)),m 47 48]
def ago:=[f 49 8 9 1,ay 50 6 49,f 51 8 9 3,p (.bu (some 6) (.t 51) (.t 50))]
def agp:=[ay 52 17 3,p (.bu (some 17) (.t 2) (.t 52))]
def CB:aM:=(s (r age) (s (r agf) (s (s (r agq) (.cond (.t 15) (s (r agr) (s (r ags) .ret)) .skip)) (s (r agt) (s (s (r agu) (.block 0 (s (r agv) (.cond (.t 25) (s (r agw) (s (r agx) (r agh))) (s (r agi) (.cond (.t 36) (r agj) (s (s (r agk) (.cond (.t 41) .skip (r agl))) (.cond (.t 41) (r agm) (s (r agn) (.cond (.t 47) (r ago) .skip)))))))))) (s (r agp) .ret))))))
def NM:List bg:=[.cell 2 (some 17)]
theorem Vr:bH Tryz.prog Tryz.f84 CB:=e (by kernel_rfl)
theorem Xz:bI Tryz.prog Tryz.f84 NM:=e (by kernel_rfl)
theorem Tw:bG Tryz.prog 84:=e (by kernel_rfl)
def Jg:=[o 2 (.alloc (.agg [.int .i64 0,.int .i64 0,.int .i64 0,.int .i64 0,.int .i64 0]))]
def Jh:=[o 3 (.alloc (.agg [.int .i64 0,.int .i64 0,.int .i64 0,.int .i64 0,.int .i64 0]))]
def Ji:=[bd 4 0]
def Jj:=[m 6 4,o 7 (.bin .lss (.t 6) (aj 5))]
def Jk:=[m 10 4,m 11 4,o 12 (.bin .shl (aj 1) (.t 11)),o 13 (.ia 5 1 (.t 3) (.t 10)),p (.bu none (.t 13) (.t 12))]
def Jl:=[m 14 0,m 15 4,o 16 (.call 34 [.t 14,.t 15]),o 17 (.call 25 [.t 16,(aj 12)]),m 5 17]
def Jm:=[m 18 5,o 19 (.bin .lss (.t 18) (aj 5))]
def Jn:=[m 20 4,m 21 4,o 22 (.ia 5 1 (.t 3) (.t 21)),l 23 22,m 24 5,o 25 (.bin .shl (aj 1) (.t 24)),o 26 (.bin .or (.t 23) (.t 25)),o 27 (.ia 5 1 (.t 3) (.t 20)),p (.bu none (.t 27) (.t 26))]
def YC:=some [[],[],[1],[2],[],[4],[3,5],[0,0,1,2,3,4,5,6],[7,6,0,1,2,3,4,5,6]]
def xn:=[m 8 4,ad 9 8 1,m 4 9]
def Jo:=[ay 28 5 3,p (.bu (some 5) (.t 2) (.t 28))]
def CC:aM:=(s (r Jg) (s (r Jh) (s (s (r Ji) (.block 0 (.loop (s (s (r Jj) (.cond (.t 7) .skip (.exit 0))) (s (.block 1 (s (r Jk) (s (r Jl) (s (r Jm) (.cond (.t 19) (.bW YC Jn) .skip))))) (r xn)))))) (s (r Jo) .ret))))
def NN:List bg:=[.cell 2 (some 5)]
theorem Vs:bH Tryz.prog Tryz.f85 CC:=e (by kernel_rfl)
theorem XA:bI Tryz.prog Tryz.f85 NN:=e (by kernel_rfl)
theorem Tx:bG Tryz.prog 85:=e (by kernel_rfl)
def Jp:=[o 2 (.alloc (.agg [.int .i64 0,.int .i64 0,.int .i64 0,.int .i64 0,.int .i64 0,.int .i64 0]))]
def Jq:=[o 3 (.alloc (.agg [.int .i64 0,.int .i64 0,.int .i64 0,.int .i64 0,.int .i64 0,.int .i64 0]))]
def Jr:=[bd 4 5]
def Js:=[m 5 4,o 6 (.bin .geq (.t 5) (aj 0))]
def Jt:=[m 9 4,m 10 0,o 11 (.bin .rem (.t 10) (aj 5)),o 12 (.ia 6 1 (.t 3) (.t 9)),p (.bu none (.t 12) (.t 11))]
def Ju:=[m 13 0,o 14 (.bin .quo (.t 13) (aj 5)),m 0 14]
def Jv:=[m 7 4,o 8 (.bin .sub (.t 7) (aj 1)),m 4 8]
def Jw:=[ay 15 6 3,p (.bu (some 6) (.t 2) (.t 15))]
def CD:aM:=(s (r Jp) (s (r Jq) (s (s (r Jr) (.block 0 (.loop (s (s (r Js) (.cond (.t 6) .skip (.exit 0))) (s (.block 1 (s (r Jt) (r Ju))) (r Jv)))))) (s (r Jw) .ret))))
def NO:List bg:=[.cell 2 (some 6)]
theorem Vt:bH Tryz.prog Tryz.f86 CD:=e (by kernel_rfl)
theorem XB:bI Tryz.prog Tryz.f86 NO:=e (by kernel_rfl)
theorem Ty:bG Tryz.prog 86:=e (by kernel_rfl)
def Jx:=[b 2 0,b 3 1,o 4 (.mv bt)]
def Jy:=[bd 5 0]
def Jz:=[m 6 5,f 7 2 6 2,l 8 7,o 9 (.len (.t 8)),lt 10 6 9]
def JA:=[f 13 0 0 2,ay 14 5 13,f 15 2 6 2,l 16 15,m 17 5,o 18 (.is 7 (.t 16) (.t 17)),f 19 1 1 18,ay 20 6 19,ay 21 6 3,o 22 (.call 129 [.t 14,.t 20,.t 21]),f 23 1 5 2,l 24 23,o 25 (.bin .mul (aj 2) (.t 24)),o 26 (.bin .leq (.t 22) (.t 25))]
def YD:=some [[],[0],[],[2],[],[3,4],[5],[6],[],[1,7,8],[],[10],[11],[9,12]]
def JB:=[o 4 (.mv T)]
def JC:=[m 11 5,ad 12 11 1,m 5 12]
def JD:=[o 4 (.mv bt)]
def CE:aM:=(s (r Jx) (s (s (r Jy) (.block 0 (.loop (s (s (r Jz) (.cond (.t 10) .skip (.exit 0))) (s (.block 1 (s (.bW YD JA) (.cond (.t 26) (s (r JB) .ret) .skip))) (r JC)))))) (s (r JD) .ret)))
def NP:List bg:=[.tmp 4]
theorem Vu:bH Tryz.prog Tryz.f87 CE:=e (by kernel_rfl)
theorem XC:bI Tryz.prog Tryz.f87 NP:=e (by kernel_rfl)
theorem Tz:bG Tryz.prog 87:=e (by kernel_rfl)
def JE:=[b 3 0,b 4 1,o 6 (.mv (.c (.nilp))),o 7 (.mv (.c (.nils 1)))]
def JF:=[o 8 (.alloc (.nils 1)),o 9 (.mv (.c (.nils 1)))]
def JK:=[l 15 3,m 16 2,o 17 (.call 105 [.t 15,.t 16])]
def agy:=[m 10 18]
def agz:=[l 19 3,m 20 10,o 21 (.is 17 (.t 19) (.t 20)),f 22 1 2 21,l 23 22,o 24 (.bin .neq (.t 23) (aj 0)),m 25 24,eI 26 3 25,c8 27 10 25,bQ 28 (.is 17 (.t 26) (.t 27)) 25,dW 29 2 3 28 25,eI 30 29 25,eI 31 4 25,bQ 32 (.bin .leq (.t 30) (.t 31)) 25,and 33 25 32]
def YE:=some [[],[],[0,1],[2],[3],[4],[5],[6],[6],[7,8,6],[9,6],[10,6],[6],[11,12,6],[6,13]]
def agA:=[l 34 8,m 35 10,o 36 (.bs 1 [.t 35]),o 37 (.dC 3 1 8 (.int .i64 0) (.t 34) (.t 36)),p (.bu none (.t 8) (.t 37))]
def xq:=[l 38 8,o 39 (.mk 138 [.t 3]),o 40 (.call 137 [.t 38,.t 39])]
def xr:=[o 41 (.jX),o 42 (.bld [.raw (.map none)] [(0,(.t 41))]),b 43 42,m 11 43]
def xt:=[o 44 (.call 139 []),m 12 44]
def xu:=[l 45 8,o 46 (.len (.t 45)),bd 47 0]
def tm:=[lt 48 47 46]
def xp:=[o 49 (.is 1 (.t 45) (.t 47)),l 50 49,m 14 50]
def tn:=[m 51 12,l 52 3,m 53 14,o 54 (.is 17 (.t 52) (.t 53)),f 55 1 2 54,l 56 55,o 57 (.lk (.i .i64) (.dh) false (.t 51) (.t 56)),m 58 11,l 59 3,m 60 14,o 61 (.is 17 (.t 59) (.t 60)),ay 62 17 61,o 63 (.eD (.t 57) [.t 58,.t 62]),no 64 63]
def De:=some [[],[],[],[1,2],[3],[4],[0,5],[],[],[],[8,9],[10],[6,7,11],[12]]
def JG:=[m 65 9,m 66 14,o 67 (.bs 1 [.t 66]),o 68 (.dC 3 1 8 (.int .i64 0) (.t 65) (.t 67)),m 9 68]
def JH:=[ad 69 47 1,m 47 69]
def JI:=[m 70 9,o 71 (.call 107 [.t 70])]
def JJ:=[m 72 11,m 73 9,m 6 72,m 7 73]
def CF:aM:=(s (r JE) (s (r JF) (s (s (r JK) (.block 0 (.lh (.t 17) [18] (r agy) (.block 1 (s (.bW YE agz) (.cond (.t 33) (r agA) .skip)))))) (s (r xq) (s (r xr) (s (r xt) (s (s (r xu) (.block 2 (.loop (s (r tm) (s (.cond (.t 48) .skip (.exit 2)) (s (.block 3 (s (r xp) (s (.bW De tn) (.cond (.t 64) (r JG) .skip)))) (r JH))))))) (s (r JI) (s (r JJ) .ret)))))))))
def NQ:List bg:=[.tmp 6,.tmp 7]
theorem Vv:bH Tryz.prog Tryz.f88 CF:=e (by kernel_rfl)
theorem XD:bI Tryz.prog Tryz.f88 NQ:=e (by kernel_rfl)
theorem TA:bG Tryz.prog 88:=e (by kernel_rfl)
def agB:=[o 2 (.mv bt)]
def agC:=[m 3 0,o 4 (.call 90 [.t 3]),no 5 4,m 2 5]
def CG:aM:=(s (r agB) (s (r agC) .ret))
def NR:List bg:=[.tmp 2]
theorem Vw:bH Tryz.prog Tryz.f89 CG:=e (by kernel_rfl)
theorem XE:bI Tryz.prog Tryz.f89 NR:=e (by kernel_rfl)
theorem TB:bG Tryz.prog 89:=e (by kernel_rfl)
def agD:=[o 2 (.mv bt)]
def agE:=[m 3 0,o 4 (.nilC (.t 3)),f 5 0 0 4,f 6 6 6 5,l 7 6,o 8 (.bin .geq (.t 7) (aj 0)),m 2 8]
def CH:aM:=(s (r agD) (s (r agE) .ret))
def NS:List bg:=[.tmp 2]
theorem Vx:bH Tryz.prog Tryz.f90 CH:=e (by kernel_rfl)
theorem XF:bI Tryz.prog Tryz.f90 NS:=e (by kernel_rfl)
theorem TC:bG Tryz.prog 90:=e (by kernel_rfl)
def agF:=[o 4 (.mv bt)]
def agG:=[m 5 0,o 6 (.call 90 [.t 5]),no 7 6,m 8 7,c8 9 0 8,bQ 10 (.nilC (.t 9)) 8,dW 11 0 0 10 8,dW 12 3 3 11 8,eI 13 12 8,eI 14 1 8,bQ 15 (.bin .eql (.t 13) (.t 14)) 8,and 16 8 15,m 17 16,c8 18 0 17,bQ 19 (.nilC (.t 18)) 17,dW 20 0 0 19 17,dW 21 1 1 20 17,eI 22 21 17,eI 23 2 17,bQ 24 (.bin .eql (.t 22) (.t 23)) 17,and 25 17 24,m 4 25]
def YF:=some [[],[0],[1],[2,1],[3],[4,3],[5,3],[6,3],[7,3],[3],[8,9,3],[3,10],[11,3],[12],[13,12],[14,12],[15,12],[16,12],[12],[17,18,12],[12,19],[20,12,0,1,2,3,4,5,6,7,8,9,10,11,12,13,14,15,16,17,18,19,20]]
def CI:aM:=(s (r agF) (s (.bW YF agG) .ret))
def NT:List bg:=[.tmp 4]
theorem Vy:bH Tryz.prog Tryz.f91 CI:=e (by kernel_rfl)
theorem XG:bI Tryz.prog Tryz.f91 NT:=e (by kernel_rfl)
theorem TD:bG Tryz.prog 91:=e (by kernel_rfl)
def JL:=[o 6 (.mv bt)]
def JM:=[m 7 1,m 8 0,o 9 (.bin .leq (.t 7) (.t 8)),m 10 9,c8 11 0 10,c8 12 2 10,bQ 13 (.bin .leq (.t 11) (.t 12)) 10,and 14 10 13,m 6 14]
def CJ:aM:=(s (r JL) (s (r JM) .ret))
def NU:List bg:=[.tmp 6]
theorem Vz:bH Tryz.prog Tryz.f94 CJ:=e (by kernel_rfl)
theorem XH:bI Tryz.prog Tryz.f94 NU:=e (by kernel_rfl)
theorem TE:bG Tryz.prog 94:=e (by kernel_rfl)
def JN:=[b 3 0,b 4 1,o 6 (.alloc (.agg [.int .i64 0,.int .i64 0,.int .i64 0,.int .i64 0,.int .i64 0,.int .i64 0])),bd 7 0]
def JO:=[ay 11 5 3,o 12 (.call 99 [.t 11]),o 13 (.bin .neq (.t 12) (aj 0))]
def JR:=[o 14 (.bld [.int .i64 0,.int .i64 0,.int .i64 0,.int .i64 0,.int .i64 0,.int .i64 0] []),p (.bu (some 6) (.t 6) (.t 14)),bd 7 11]
def JS:=[ay 15 6 4,o 16 (.call 100 [.t 15]),o 17 (.bin .neq (.t 16) (aj 0))]
def JT:=[o 18 (.bld [.int .i64 0,.int .i64 0,.int .i64 0,.int .i64 0,.int .i64 0,.int .i64 0] []),p (.bu (some 6) (.t 6) (.t 18)),bd 7 10]
def JU:=[o 8 (.alloc (.agg [.int .i64 0,.int .i64 0,.int .i64 0,.int .i64 0,.int .i64 0,.int .i64 0]))]
def JV:=[bd 9 0]
def JW:=[m 19 9,o 20 (.bin .lss (.t 19) (aj 6))]
def JX:=[m 23 9,o 24 (.ia 6 1 (.t 4) (.t 23)),l 25 24,o 26 (.ia 5 1 (.t 3) (.t 25)),l 27 26,o 28 (.call 141 [.t 27]),m 10 28]
def JY:=[m 29 9,m 30 10,m 31 2,m 32 9,o 33 (.call 34 [.t 31,.t 32]),m 34 10,o 35 (.len (.t 34)),o 36 (.call 25 [.t 33,.t 35]),o 37 (.is 1 (.t 30) (.t 36)),l 38 37,o 39 (.bin .shl (aj 1) (.t 38)),o 40 (.ia 6 1 (.t 8) (.t 29)),p (.bu none (.t 40) (.t 39))]
def JP:=[m 21 9,ad 22 21 1,m 9 22]
def JQ:=[ay 41 6 8,p (.bu (some 6) (.t 6) (.t 41)),bd 7 0]
def CK:aM:=(s (r JN) (s (s (r JO) (.cond (.t 13) (s (r JR) .ret) .skip)) (s (s (r JS) (.cond (.t 17) (s (r JT) .ret) .skip)) (s (r JU) (s (s (r JV) (.block 0 (.loop (s (s (r JW) (.cond (.t 20) .skip (.exit 0))) (s (.block 1 (s (r JX) (r JY))) (r JP)))))) (s (r JQ) .ret))))))
def NV:List bg:=[.cell 6 (some 6),.tmp 7]
theorem VA:bH Tryz.prog Tryz.f98 CK:=e (by kernel_rfl)
theorem XI:bI Tryz.prog Tryz.f98 NV:=e (by kernel_rfl)
theorem TF:bG Tryz.prog 98:=e (by kernel_rfl)
def JZ:=[b 1 0,bd 2 0]
def J0:=[bd 3 0]
def J1:=[m 4 3,o 5 (.bin .lss (.t 4) (aj 5))]
def J2:=[m 8 3,o 9 (.ia 5 1 (.t 1) (.t 8)),l 10 9,o 11 (.call 94 [.t 10,(aj 0),(aj 31)]),no 12 11,m 13 12,eK 14 3 13,on 15 (.ia 5 1 (.t 1) (.t 14)) 13,mJ 16 15 13,eK 17 3 13,on 18 (.bin .shl (aj 1) (.t 17)) 13,on 19 (.bin .and (.t 16) (.t 18)) 13,on 20 (.bin .eql (.t 19) (aj 0)) 13,or 21 13 20]
def YG:=some [[],[0],[1],[2],[3],[4,3],[5],[6,5],[7,5],[5],[9,5],[8,10,5],[11,5],[5,12]]
def xv:=[bd 2 11]
def J3:=[m 6 3,ad 7 6 1,m 3 7]
def J4:=[bd 2 0]
def CL:aM:=(s (r JZ) (s (s (r J0) (.block 0 (.loop (s (s (r J1) (.cond (.t 5) .skip (.exit 0))) (s (.block 1 (s (.bW YG J2) (.cond (.t 21) (s (r xv) .ret) .skip))) (r J3)))))) (s (r J4) .ret)))
def NW:List bg:=[.tmp 2]
theorem VB:bH Tryz.prog Tryz.f99 CL:=e (by kernel_rfl)
theorem XJ:bI Tryz.prog Tryz.f99 NW:=e (by kernel_rfl)
theorem TG:bG Tryz.prog 99:=e (by kernel_rfl)
def D9:=[b 1 0,bd 2 0]
def Ea:=[bd 3 0]
def Eb:=[m 4 3,o 5 (.bin .lss (.t 4) (aj 6))]
def Ec:=[m 8 3,o 9 (.ia 6 1 (.t 1) (.t 8)),l 10 9,o 11 (.call 94 [.t 10,(aj 0),(aj 4)]),no 12 11]
def Ed:=[bd 2 10]
def Ee:=[m 6 3,ad 7 6 1,m 3 7]
def Ef:=[bd 2 0]
def AV:aM:=(s (r D9) (s (s (r Ea) (.block 0 (.loop (s (s (r Eb) (.cond (.t 5) .skip (.exit 0))) (s (.block 1 (s (r Ec) (.cond (.t 12) (s (r Ed) .ret) .skip))) (r Ee)))))) (s (r Ef) .ret)))
def L4:List bg:=[.tmp 2]
theorem TM:bH Tryz.prog Tryz.f100 AV:=e (by kernel_rfl)
theorem VT:bI Tryz.prog Tryz.f100 L4:=e (by kernel_rfl)
theorem RT:bG Tryz.prog 100:=e (by kernel_rfl)
def Eg:=[b 3 0,b 4 1,b 5 2,bd 6 0]
def Ei:=[bd 7 0]
def Ej:=[bd 8 0]
def Ek:=[m 9 8,o 10 (.bin .lss (.t 9) (aj 6))]
def El:=[m 13 8,o 14 (.ia 6 1 (.t 4) (.t 13)),l 15 14,o 16 (.ia 5 1 (.t 3) (.t 15)),l 17 16,m 18 8,o 19 (.ia 6 1 (.t 5) (.t 18)),l 20 19,o 21 (.bin .and (.t 17) (.t 20)),o 22 (.bin .eql (.t 21) (aj 0))]
def XM:=some [[],[0],[1],[2],[3],[],[5],[6],[4,7],[8]]
def Em:=[m 23 7,ad 24 23 1,m 7 24]
def wB:=[m 11 8,ad 12 11 1,m 8 12]
def En:=[m 25 7,m 6 25]
def AW:aM:=(s (r Eg) (s (r Ei) (s (s (r Ej) (.block 0 (.loop (s (s (r Ek) (.cond (.t 10) .skip (.exit 0))) (s (.block 1 (s (.bW XM El) (.cond (.t 22) (r Em) .skip))) (r wB)))))) (s (r En) .ret))))
def L5:List bg:=[.tmp 6]
theorem TN:bH Tryz.prog Tryz.f102 AW:=e (by kernel_rfl)
theorem VU:bI Tryz.prog Tryz.f102 L5:=e (by kernel_rfl)
theorem RU:bG Tryz.prog 102:=e (by kernel_rfl)
def ZP:=[b 3 1,bd 4 0,o 5 (.mv bt)]
def ZQ:=[m 6 0,ay 7 2 3,o 8 (.call 142 [.t 6,.t 7,(.c (.func 143 []))]),o 9 (.ext (.t 8) 0),o 10 (.ext (.t 8) 1),m 4 9,m 5 10]
def AX:aM:=(s (r ZP) (s (r ZQ) .ret))
def L6:List bg:=[.tmp 4,.tmp 5]
theorem TO:bH Tryz.prog Tryz.f103 AX:=e (by kernel_rfl)
theorem VV:bI Tryz.prog Tryz.f103 L6:=e (by kernel_rfl)
theorem RV:bG Tryz.prog 103:=e (by kernel_rfl)
def Eo:=[b 2 0,b 3 1,o 4 (.mv (.c (.dh)))]
def Ep:=[o 9 (.jX),o 5 (.alloc (.raw (.map none))),p (.bu none (.t 5) (.t 9))]
def Er:=[l 10 2,o 11 (.len (.t 10)),o 12 (.ky 4 1 (.bool false) (.t 11)),o 6 (.alloc (.nils 1)),p (.bu none (.t 6) (.t 12))]
def Es:=[l 13 2,o 14 (.call 145 [.t 13])]
def ZR:=[m 7 15]
def ZS:=[o 8 (.alloc (.agg [.agg [.int .i64 0,.int .i64 0],.int .i64 0,.int .i64 0,.int .i64 0,.int .i64 0,.int .i64 0,.int .i64 0,.int .i64 0,.agg [.int .i64 0,.int .i64 0,.int .i64 0,.int .i64 0,.int .i64 0,.int .i64 0],.agg [.int .i64 0,.int .i64 0]])),p (.bu (some 17) (.t 8) (.t 16))]
def ZT:=[l 17 6,m 18 7,f 19 3 4 8,l 20 19,l 21 3,o 22 (.bin .leq (.t 20) (.t 21)),m 23 22,eI 24 5 23,dW 25 0 0 8 23,bQ 26 (.ld (some 2) (.t 25)) 23,bQ 27 (.lk (.bu [(.i .i64),(.i .i64)]) (.bool false) false (.t 24) (.t 26)) 23,bQ 28 (.un .not (.t 27)) 23,and 29 23 28,o 30 (.is 1 (.t 17) (.t 18)),p (.bu none (.t 30) (.t 29))]
def XN:=some [[],[],[],[2],[],[3,4],[5],[6],[6],[8,6],[7,9,6],[10,6],[6,11],[0,1,0,1,2,3,4,5,6,7,8,9,10,11,12],[13,12,6,0,1,2,3,4,5,6,7,8,9,10,11,12]]
def ZU:=[l 31 6,m 32 7,o 33 (.is 1 (.t 31) (.t 32)),l 34 33,m 35 34,dW 36 1 2 8 35,eI 37 36 35,bQ 38 (.bin .eql (.t 37) (aj 0)) 35,and 39 35 38]
def ZV:=[l 40 5,f 41 9 15 8,ay 42 2 41,p (.gQ (.bu [(.i .i64),(.i .i64)]) (.t 40) (.t 42) T)]
def ZW:=[o 43 (.mk 146 [.t 2,.t 6]),m 4 43]
def AY:aM:=(s (r Eo) (s (r Ep) (s (r Er) (s (s (r Es) (.block 0 (.lh (.t 14) [15,16] (s (r ZR) (r ZS)) (.block 1 (s (.bW XN ZT) (s (r ZU) (.cond (.t 39) (r ZV) .skip))))))) (s (r ZW) .ret)))))
def L7:List bg:=[.tmp 4]
theorem TP:bH Tryz.prog Tryz.f105 AY:=e (by kernel_rfl)
theorem VW:bI Tryz.prog Tryz.f105 L7:=e (by kernel_rfl)
theorem RW:bG Tryz.prog 105:=e (by kernel_rfl)
theorem CM:bG Tryz.prog 107:=e (by kernel_rfl)
end Go.Proofs.YtcldiigclhgafaaGreat
