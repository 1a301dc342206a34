/-
  A part of the proof that the law HerdBearers returns true for every input; conditions: none beyond the statement's own. (part 3 of 7)
-/
import Derived.RangeFuncIn
import Derived.Laws.Externs
import Derived.ProofKit
import Derived.SizedLaws
import Derived.Test.YtcldiigclhgafaaGreatChecked
import Derived.KernelRfl
import Derived.Test.YtcldiigclhgafaaGreatNab
set_option linter.unusedSimpArgs false
set_option linter.unusedVariables false
set_option maxHeartbeats 16000000
set_option maxRecDepth 100000
namespace Go.Abs
open Go Go.RowKit
open Enc (enc)
mutual
theorem jc{p q:Nat→Bool}(h:∀ n,p n=true→q n=true):∀ x:I,x.only p=true→x.only q=true
 | .agg fs,hx | .tuple fs,hx=>by simp only[I.only] at *;exact iC h fs hx
 | .slice _ es,hx=>by simp only[I.only] at *;exact iC h es hx
 | .ref x,hx=>by simp only[I.only] at *;exact jc h x hx
 | .func _ caps,hx=>by simp only[I.only] at *;exact iC h caps hx
 | .iface _ v,hx=>by simp only[I.only] at *;exact jc h v hx
 | .ptr _ _,hx | .own _ _,hx | .view _ _ _ _ _,hx | .mref _,hx | .dx _,hx=>by simp only[I.only] at *;exact h _ hx
 | .cT ks vs,hx=>by simp only[I.only,Bool.and_eq_true] at *;exact ⟨iC h ks hx.1,iC h vs hx.2⟩
 | .bool _,_ | .int _ _,_ | .cX _,_ | .nilp,_ | .dj,_ | .dR,_ | .raw _,_ | .nils _,_ | .c0 _,_ | .undef,_ | .c9,_=>by simp[I.only]
theorem iC{p q:Nat→Bool}(h:∀ n,p n=true→q n=true):∀ xs:List I,I.bV p xs=true→I.bV q xs=true
 | [],_=>rfl
 |x::xs,hx=>by
  simp only[I.bV,Bool.and_eq_true] at *
  exact ⟨jc h x hx.1,iC h xs hx.2⟩
end
theorem ah.jc{p q:Nat→Bool}(h:∀ n,p n=true→q n=true)(x:ah)(hx:x.only p=true):x.only q=true:=by
 cases x with
 |box y=>simp only[ah.only] at *;exact Abs.jc h y hx
 |bW T sz es=>simp only[ah.only] at *;exact iC h es hx
 |dK o=>rfl
 |cU T xs=>rfl
 |cu ks vs=>simp only[ah.only,Bool.and_eq_true] at *;exact ⟨iC h ks hx.1,iC h vs hx.2⟩
 |it ks vs left cur=>simp only[ah.only,Bool.and_eq_true] at *;exact ⟨iC h ks hx.1,iC h vs hx.2⟩
theorem JC{x:I}(h:x.bt=true):x.cq=true:=by
 cases x <;>first | rfl | simp[I.bt] at h
theorem u9{aC:Bool}{A0:ae}{ρ:List (Nat×Nat)}{os:List (Nat×ah)} : ∀ xs:List I,I.bY xs=true→jq aC A0 ρ os xs xs
 | [],_=>trivial
 |x::xs,h=>by
  simp only[I.bY,Bool.and_eq_true] at h
  exact ⟨.inl ⟨(rr _ x h.1).symm,jS _ x h.1,JC h.1⟩,u9 xs h.2⟩
structure fB (os os':List (Nat×ah)):Prop where
 same:∀ m,aq os' m=aq os m
 ok:∀ m x,ak os' m=some x→x.only (aq os')=true∧x.eR=true
 oo:∀ m,aq os m=true→1000000≤m
def uT(P:Program)(g:FuncId)(caps:List I)(N:Nat)(item:Nat→List I):Prop :=
 ∀ (Y:Value→List I→List (Nat×ah)→cV→Prop) (v:Value) (ai:Nat→List (Nat×ah)→Prop) (Ix:List (Nat×ah)→Prop) (os:List (Nat×ah)),v.oneCell'=true →
  (∀ k os' post,k<N→ai k os'→(∀ r os2,(r=.bool true∧ai (k+1) os2)∨(r=.bool false∧Ix os2)→post r os2)→Y v (item k) os' post) →
  (∀ k os',ai k os'→fB os os')→(∀ os',Ix os'→fB os os')→ai 0 os→kA P g Y (.raw v::caps) os (fun r os'=>r=.tuple []∧(ai N os'∨Ix os'))
def dE(o:Obj)(os:List (Nat×ah)):List (Nat×ah):=(1999999,.dK o)::os
theorem lN(o:Obj)(os:List (Nat×ah))(m:Nat):aq (dE o os) m=(decide (m=1999999)||aq os m):=by
 simp only[dE,aq,ak]
 by_cases h:m=1999999 <;>simp[h]
theorem pL(o:Obj)(os:List (Nat×ah))(m:Nat):ak (dE o os) m=if m=1999999 then some (.dK o) else ak os m:=rfl
theorem fB.dE{os os':List (Nat×ah)}(h:fB os os')(o o':Obj):fB (dE o os) (dE o' os'):=by
 refine ⟨fun m=>by rw[lN,lN,h.same],fun m x hx =>?_,fun m hm =>?_⟩
 ·rw[pL] at hx
  split at hx
  ·cases hx;exact ⟨rfl,rfl⟩
  ·obtain ⟨h1,h2⟩:=h.ok m x hx
   exact ⟨x.jc (fun n hn=>by rw[lN,hn];simp) h1,h2⟩
 ·rw[lN] at hm
  simp only[Bool.or_eq_true,decide_eq_true_eq] at hm
  rcases hm with rfl | hm
  ·decide
  ·exact h.oo m hm
def rm:List Nat→List I→List (Nat×I)→List (Nat×I)
 |p::ps,v::vs,ts=>rm ps vs ((p,v)::ts)
 |_,_,ts=>ts
def mX(ρ:List (Nat×Nat))(p:Nat→Bool)(ts:List (Nat×I)):List (Nat×I)→Prop
 | []=>True
 |(k,v)::r=>bO ts k=v.aR (bJ ρ)∧v.only p=true∧mX ρ p ts r
theorem Nh{ρ:List (Nat×Nat)}{p:Nat→Bool}{ts:List (Nat×I)} : ∀ {tsR:List (Nat×I)},mX ρ p ts tsR→∀ k,bO tsR k=.c9∨(bO ts k=(bO tsR k).aR (bJ ρ)∧(bO tsR k).only p=true)
 | [],_,k=>.inl rfl
 |(j,v)::r,h,k=>by
  simp only[mX] at h
  simp only[bO]
  split
  ·rename_i hk;subst hk;exact .inr ⟨h.1,h.2.1⟩
  ·exact Nh h.2.2 k
section
variable {c:cM} {a:Act} {w:World} {D:aP} {E:aX}
theorem aS.yX{A:ae}(h:aS c A a w D E){n b:Nat}{o o':Obj}(hn:A.o n=some (.dK o))(av:E n=some (.op b))(ho:pH o'=true):aS c (A.aM n (.dK o')) a (w.putObj b o') D E:=by
 have hob:=h.bX n
 rw[hn] at hob
 obtain ⟨b',k1,k2,k3,k4,k5⟩:=hob
 rw[av] at k1
 cases k1
 have hnc:o.isCells=false:=by cases o <;>first | rfl | cases k4
 have hlt:b<w.heap.size:=fT k3
 have hl:dM w D E (w.putObj b o') D E:=⟨fun _ _ h=>h,fun b1 o1 v _ hv=>vu k3 hnc hv,fun _ _ _ h=>h,fun _ aE l h=>⟨aE,l,h,Nat.le_refl _,fun _=>rfl⟩,fun _ _ h=>h,fun _ _ h=>h,fun b1 es ck hd hm=>(World.putObj_heap_other (fun e1=>k5 0 (by rw[←e1];exact hd))).trans hm⟩
 refine ⟨h.sz,h.eM.mono fun B _ hB=>(World.putObj_heap_other (fun e=>by rw[e,k3] at hB;cases hB;cases k4)).trans hB,fun t=>aW.bL hl (h.dY t),h.dO.trans ⟨rfl,rfl,rfl,by simp,fun k hk=>World.putObj_heap_other (fun e=>hk (e▸k2))⟩,h.c6,
  fun b1 o1 hd=>by have:=h.de b1 o1 hd;simpa using this,fun m =>?_,h.cQ,h.dQ,h.eU,h.cK,h.eW,h.kY hl⟩
 simp only[ae.aM]
 by_cases hm:m=n
 ·subst hm
  simp only[if_true,dc]
  exact ⟨b,av,k2,World.putObj_heap_same hlt,ho,k5⟩
 ·simp only[if_neg hm]
  exact (h.bX m).bL hl rfl fun e b1 he hb=>⟨World.putObj_heap_other (fun e1=>hm (h.cQ m n e _ b1 he av hb (by rw[e1];rfl))),fun _ ho=>ho⟩
theorem aS.X3{A:ae}(h:aS c A a w D E){n b:Nat}(av:E n=some (.op b)):aS c ⟨A.t,fun m=>if m=n then none else A.o m⟩ a w D (fun m=>if m=n then none else E m):=by
 have hne:∀ {m:Nat} {e:bU},E m=some e→(∀ b,e≠.op b)→m≠n:=fun he h2 e'=>by
  subst e';rw[av] at he;cases he;exact h2 _ rfl
 have hl:dM w D E w D (fun m=>if m=n then none else E m):=by
  refine ⟨fun _ _ h=>h,fun _ _ _ _ h=>h,fun m b aQ he =>?_,fun m aE l he=>⟨aE,l,?_,Nat.le_refl _,fun _=>rfl⟩,fun m b he =>?_,fun m b he =>?_,fun _ _ _ _ h=>h⟩
  ·simp only[if_neg (hne he (fun b=>by simp))];exact he
  ·simp only[if_neg (hne he (fun b=>by simp))];exact he
  ·simp only[if_neg (hne he (fun b=>by simp))];exact he
  ·simp only[if_neg (hne he (fun b=>by simp))];exact he
 refine ⟨h.sz,h.eM,fun t=>aW.bL hl (h.dY t),h.dO,h.c6,h.de,fun m =>?_,fun m m' e e' b h1 h2 h3 h4 =>?_,fun m e hm =>?_,h.eU,h.cK,h.eW,h.fE⟩
 ·by_cases hm:m=n
  ·simp only[hm,if_true,dc]
  ·simp only[if_neg hm]
   exact (h.bX m).bL hl (by simp only[if_neg hm]) fun _ _ _ _=>⟨rfl,fun _ ho=>ho⟩
 ·split at h1
  ·cases h1
  ·split at h2
   ·cases h2
   ·exact h.cQ m m' e e' b h1 h2 h3 h4
 ·by_cases hmn:m=n
  ·left;simp only[hmn,if_true]
  ·simp only[if_neg hmn];exact h.dQ m e hm
theorem aS.enter{ts:List (Nat×I)}{os0:List (Nat×ah)}(h:aS c (ar ts os0) a w D E)(hfree:ak os0 999999=none)(hE0:c.du 999999=none){o:Obj}(ho:pH o=true) :
  ∃ E1,aS c (ar ts ((999999,.dK o)::os0)) { a with defers := { target:=.collected w.heap.size,args := #[] } :: a.defers } ((w.alloc (.deferred (some []))).alloc o) D E1∧E1 999999=some (.op (w.heap.size+1))∧∀ xs vs,aF w D E xs vs→aF ((w.alloc (.deferred (some []))).alloc o) D E1 xs vs:=by
 have hb:Below w.heap.size w ((w.alloc (.deferred (some []))).alloc o):=((Below.refl _ w).alloc (Nat.le_refl _) _).alloc (by simp) _
 have h1:=h.grow (D':=D) hb (fun _ _ h=>h) (fun _ _ h _=>h) (fun b o' hd=>by have:=h.de b o' hd;simp;omega)
 obtain ⟨W,hW⟩:∃ W,W=(w.alloc (.deferred (some []))).alloc o:=⟨_,rfl⟩
 have hL:W.heap[w.heap.size+1]?=some o:=by
  rw[hW];have:=World.alloc_heap_new (w.alloc (.deferred (some []))) o;rwa [World.size_alloc] at this
 have hK:W.heap[w.heap.size]?=some (.deferred (some [])):=by
  rw[hW];exact (Below.heap_alloc _ _ _ (by simp)).trans (World.alloc_heap_new w _)
 rw[←hW] at h1 hb ⊢
 have hEn:E 999999=none:=by have:=h.bX 999999;simp only[ar,hfree] at this;exact this
 have hl:dM W D E W D (fun m=>if m=999999 then some (.op (w.heap.size+1)) else E m):=by
  refine ⟨fun _ _ h=>h,fun _ _ _ _ h=>h,fun m b aQ he =>?_,fun m aE l he=>⟨aE,l,?_,Nat.le_refl _,fun _=>rfl⟩,fun m b he =>?_,fun m b he =>?_,fun _ _ _ _ h=>h⟩
  all_goals
   have:m≠999999:=fun e=>by rw[e,hEn] at he;cases he
   simp only[if_neg this];exact he
 have hsz:c.fc.heap.size≤w.heap.size:=h.dO.size
 have nb:∀ {m:Nat} {e:bU} {b:Nat},E m=some e→e.aE=some b→b<w.heap.size:=fun he hb'=>h.fR he hb'
 refine ⟨fun m=>if m=999999 then some (.op (w.heap.size+1)) else E m,⟨h1.sz,?_,fun t=>aW.bL hl (h1.dY t),h1.dO,h1.c6,h1.de,fun m =>?_,fun m m' e e' b g1 g2 g3 g4 =>?_,fun m e hm =>?_,h1.eU,h1.cK,h1.eW,h1.fE⟩,by simp,fun xs vs hx=>aF.bL hl xs vs (aF.bL (dM.grow hb fun _ _ h=>h) xs vs hx)⟩
 ·obtain ⟨Bs,k1,k2,k3⟩:=h1.eM
  refine ⟨w.heap.size::Bs,by simp only[List.map_cons];rw[←k1],List.nodup_cons.2 ⟨fun hin =>?_,k2⟩,fun B hB =>?_⟩
  ·obtain ⟨Bs',j1,_,j3⟩:=h.eM
   have e1:Bs=Bs':=by
    have:Bs.map (fun B=>({ target:=.collected B,args := #[] } : Deferred))=Bs'.map (fun B => { target:=.collected B,args := #[] }):=by rw[←k1,←j1]
    exact (List.map_inj_right (fun x y hxy=>by simpa using hxy)).1 this
   rw[e1] at hin
   have:=fT (j3 _ hin).2
   omega
  ·rcases List.mem_cons.1 hB with rfl | hB
   ·exact ⟨hsz,hK⟩
   ·exact k3 B hB
 ·simp only[ar,ak]
  by_cases hm:m=999999
  ·subst hm
   simp only[if_true,dc]
   exact ⟨_,rfl,.inl (by omega),hL,ho,fun o' hd=>by have:=h.de _ o' hd;omega⟩
  ·simp only[if_neg hm]
   exact (h1.bX m).bL hl (by simp only[if_neg hm]) fun _ _ _ _=>⟨rfl,fun _ ho=>ho⟩
 ·by_cases hm:m=999999 <;>by_cases hm':m'=999999
  ·rw[hm,hm']
  ·simp only[if_pos hm,Option.some.injEq] at g1
   simp only[if_neg hm'] at g2
   subst g1
   simp only[bU.aE,Option.some.injEq] at g3
   have:=nb g2 g4;omega
  ·simp only[if_neg hm] at g1
   simp only[if_pos hm',Option.some.injEq] at g2
   subst g2
   simp only[bU.aE,Option.some.injEq] at g4
   have:=nb g1 g3;omega
  ·simp only[if_neg hm] at g1;simp only[if_neg hm'] at g2;exact h.cQ m m' e e' b g1 g2 g3 g4
 ·have hmn:m≠999999:=fun e=>by rw[e,hE0] at hm;cases hm
  simp only[if_neg hmn]
  exact h.dQ m e hm
theorem dc.mC{M M':Nat→Prop}{n:Nat}{x:Option ah}(h:dc M w D E n x)(hM:∀ e b,E n=some e→e.aE=some b→M' b):dc M' w D E n x:=by
 unfold dc at *
 split
 ·exact h
 ·obtain ⟨b,cs,T,h1,_,h3⟩:=h
  exact ⟨b,cs,T,h1,hM _ b h1 rfl,h3⟩
 ·obtain ⟨aE,h1,h2,h3⟩:=h
  refine ⟨aE,h1,h2,?_⟩
  split
  ·exact h3
  ·obtain ⟨cs,pre,rest,_,h4⟩:=h3
   exact ⟨cs,pre,rest,hM _ _ h1 rfl,h4⟩
 ·obtain ⟨b,h1,_,h3⟩:=h
  exact ⟨b,h1,hM _ b h1 rfl,h3⟩
 ·obtain ⟨b,es,ck,h1,_,h3⟩:=h
  exact ⟨b,es,ck,h1,hM _ b h1 rfl,h3⟩
 ·obtain ⟨r,b,es,ck,si,se,la,h1,_,h3⟩:=h
  exact ⟨r,b,es,ck,si,se,la,h1,hM _ r h1 rfl,h3⟩
 ·obtain ⟨aE,h1,h2,h3⟩:=h
  refine ⟨aE,h1,h2,?_⟩
  split
  ·exact h3
  ·obtain ⟨cs,m,_,h4⟩:=h3
   exact ⟨cs,m,hM _ _ h1 rfl,h4⟩
theorem aS.KH{os:List (Nat×ah)} : ∀ (ps:List Nat) (vs:List Value) (xs:List I) (ts:List (Nat×I)) (a:Act),aS c (ar ts os) a w D E→(∀ p∈ps,p<c.n)→aF w D E xs vs→ps.length=vs.length →
  aS c (ar (rm ps xs ts) os) { a with tmps:=(ps.zip vs).foldl (fun t q=>t.setIfInBounds q.1 q.2) a.tmps } w D E
 | [],[],xs,ts,a,h,_,hv,_=>by
  cases xs with
  |nil=>exact h
  |cons x xs=>simp[aF] at hv
 | [],_::_,_,_,_,_,_,_,hl=>by simp at hl
 |_::_,[],_,_,_,_,_,_,hl=>by simp at hl
 |p::ps,v::vs,xs,ts,a,h,hp,hv,hl=>by
  cases xs with
  |nil=>simp[aF] at hv
  |cons x xs =>
   simp only[aF] at hv
   obtain ⟨v',rest,cs,e,h1,h2,h3⟩:=hv
   simp only[List.cons.injEq] at e
   obtain ⟨rfl,rfl⟩:=e
   have h4:=h.put (hp p (by simp)) (mD h1 h2)
   rw[tB] at h4
   have:=aS.KH ps vs xs ((p,x)::ts) (a.put (some p) v) h4 (fun q hq=>hp q (by simp[hq])) h3 (by simpa using hl)
   exact this
end
end Go.Abs
namespace Go.Abs
open Go Go.RowKit
def jk:b6→Bool
 | .mv _ | .pick .. | .bin .. | .eqv .. | .conv .. | .un .. | .fl .. | .ix .. | .lenT _ | .bld .. | .ext .. | .mk .. | .nilC _ | .ptrE .. =>true
 | .ld .. | .fa .. | .ia .. | .is .. | .len _ | .va .. | .bs .. | .sl .. | .cap _ | .bs0 _ | .lk .. =>true
 |_=>false
def oF:b6→Bool
 | .alloc _ | .box _ | .bl .. | .call .. | .eH .. | .cS .. =>true
 |op=>jk op
def pJ(hs:List FuncId):b6→Bool
 | .alloc _ | .box _=>true
 | .call f _ => !hs.contains f
 |op=>jk op
abbrev ep:=List (Nat×List Nat)
def iY(L:ep)(s:Nat):Option (List Nat):=(L.find? fun q=>q.1==s).map (·.2)
def en(L:ep)(A:ae):Prop:=∀ s ns,iY L s=some ns→(A.t s).only (fun n=>ns.contains n)=true
def qQ(L:ep):aK→Option (List Nat)
 | .t s=>iY L s
 | .c x=>if x.bt then some [] else none
def uy(a:Option (List Nat))(ns:List Nat):Bool:=match a with
 |some ms=>ms.all fun m=>ns.contains m
 |none=>false
def ij(L:ep)(g:aB):Bool:=match g.dst with
 |none=>true
 |some d=>match iY L d with
  |none=>true
  |some ns=>match g.op with
   | .mv x | .nilC x | .fa _ _ x | .ia _ _ x _=>uy (qQ L x) ns
   | .bin .. | .len _ | .bs .. | .bs0 _ | .conv .. | .lenT _=>true
   | .box _ | .alloc _=>ns.contains d
   |_=>false
def nH:b6→Option (List Nat)
 | .ld _ (.t x) | .fa _ _ (.t x) | .ia _ _ (.t x) _ | .is _ (.t x) _ | .len (.t x) | .va _ _ (.t x) | .sl _ (.t x) _ _ _ | .cap (.t x) | .lk _ _ _ (.t x) _=>some [x]
 | .bs _ ps=>if (ps.all fun x=>match x with | .t _=>true | .c _=>false)=true then some (jY ps) else none
 | .bs0 _=>some []
 |op=>if op.gF=0∧jk op=true then some [] else none
def r9(L:ep)(g:aB)(p:Nat→Bool):Bool:=match nH g.op with
 |some xs=>xs.all fun s=>match iY L s with | some ns=>ns.all p | none=>false
 |none=>false
def oG(hs:List FuncId)(L:ep)(g h:aB):Bool:=pJ hs h.op||match h.op with
 | .bl _ (.t y) _=>match nH g.op with
  |some []=>true
  |_=>match iY L y with
   |some ms=>r9 L g fun n => !ms.contains n
   |none=>false
 | .bl .. =>match nH g.op with
  |some []=>true
  |_=>false
 | .cS _ _ _ _ s _=>r9 L g (fun _=>false)||uy (qQ L s) []
 |_=>false
def nB(hs:List FuncId)(L:ep)(g h:aB):Bool:=jk g.op&&(oG hs L g h&&((match g.dst with
  |some d => !h.c7.contains d&&h.dst != some d
  |none=>true)&&(match h.dst with
  |some d => !g.c7.contains d
  |none=>true)))
theorem xl{op:b6}(h:jk op=true)(A:ae)(dst:Option Nat)(rest:List aB)(k:ae→cL):bn A dst op rest k=cP (bB A op) fun v=>k (A.aO dst v):=by
 cases op <;>first | rfl | cases h
inductive b9 (P:Program) (hs:List FuncId) (K:ae→Prop):cL→Prop where
 |done {A:ae} : K A→b9 P hs K (.done A)
 |flat {f:FuncId} {avs cargs:List I} {a2:Option (List I)} {dst:Option Nat} {rest:List aB} {A:ae} (r:I):aw P f cargs r→r.flat=true→b9 P hs K (ay rest (A.aO dst r))→b9 P hs K (.call f avs (some cargs) a2 dst rest A)
 |lead {f:FuncId} {avs cargs:List I} {a1:Option (List I)} {dst:Option Nat} {rest:List aB} {A:ae} (r:I):aw P f cargs r→b9 P hs K (ay rest (A.aO dst r))→b9 P hs K (.call f avs a1 (some cargs) dst rest A)
 |bX {f:FuncId} {avs:List I} {a1 a2:Option (List I)} {dst:Option Nat} {rest:List aB} {ts:List (Nat×I)} {os0:List (Nat×ah)} (ρ:List (Nat×Nat)) (cargs:List I) (post:cV):cH P f cargs [] post →
   gm ρ [] os0→jq false (ar ts os0) ρ [] avs cargs→(∀ r os',post r os'→eC false ρ [] os0 r os') →
   (∀ r os',post r os'→b9 P hs K (ay rest ((ar ts (dN ρ os'++os0)).aO dst (r.aR (bJ ρ)))))→b9 P hs K (.call f avs a1 a2 dst rest (ar ts os0))
 |any {p:Nat→Prop} {k:Nat→cL} : (∀ m,p m→b9 P hs K (k m))→b9 P hs K (.any p k)
 |x7 {f:FuncId} {avs:List I} {a1 a2:Option (List I)} {dst:Option Nat} {rest:List aB} {ts:List (Nat×I)} {os0:List (Nat×ah)} (aC:Bool) (ρ:List (Nat×Nat)) (os:List (Nat×ah)) (cargs:List I) (post:cV):hs.contains f=true→cH P f cargs os post →
   gm ρ os os0→jq aC (ar ts (cE (jR ρ os) os0)) ρ os avs cargs→(∀ r os',post r os'→eC aC ρ os os0 r os') →
   (∀ r os',post r os'→b9 P hs K (ay rest ((ar ts (dN ρ os'++os0)).aO dst (r.aR (bJ ρ)))))→b9 P hs K (.call f avs a1 a2 dst rest (ar ts os0))
theorem X2(os:List (Nat×ah)):cE [] os=os:=by simp[cE]
section
variable {P:Program} {hs:List FuncId} {K:ae→Prop} {Y:Value→List I→List (Nat×ah)→cV→Prop}
theorem b9.zX{p:Nat→Prop}{k:Nat→cL}(h:b9 P hs K (.any p k)):∀ m,p m→b9 P hs K (k m):=by cases h;assumption
theorem en.put{L:ep}{A B:ae}(h:en L A)(ht:∀ k,B.t k=A.t k){dst:Option Nat}{v:I}(hv:∀ d,dst=some d→∀ ns,iY L d=some ns→v.only (fun n=>ns.contains n)=true):en L (B.aO dst v):=by
 intro s ns hs'
 cases dst with
 |none=>exact (ht s).symm▸h s ns hs'
 |some d =>
  simp only[ae.aO,ae.put]
  by_cases hd:s=d
  ·rw[if_pos hd];exact hv d rfl ns (hd▸hs')
  ·rw[if_neg hd,ht];exact h s ns hs'
theorem rG{L:ep}{A:ae}(h:en L A){x:aK}{ns:List Nat}(hx:uy (qQ L x) ns=true):(ab A x).only (fun n=>ns.contains n)=true:=by
 cases x with
 |c x =>
  simp only[qQ] at hx
  split at hx
  ·rename_i hc;exact jS _ x hc
  ·cases hx
 |t s =>
  simp only[qQ] at hx
  cases hl:iY L s with
  |none=>rw[hl] at hx;cases hx
  |some ms =>
   rw[hl] at hx
   simp only[uy,List.all_eq_true] at hx
   exact jc (fun n hn=>hx n (by simpa using hn)) _ (h s ms hl)
theorem Qr{op:BinOp}{x y v:I}(p:Nat→Bool)(h:cI op x y=some v):v.only p=true:=by
 unfold cI at h
 (repeat' split at h) <;>first | (cases h;done) | (simp only[Option.some.injEq] at h;subst h;rfl)
theorem yg{p:Nat→Bool} : ∀ {xs:List I} {i:Nat} {x:I},I.bV p xs=true→xs[i]?=some x→x.only p=true
 | [],_,_,_,h=>by simp at h
 |a::xs,0,x,h,e=>by
  simp only[I.bV,Bool.and_eq_true] at h
  simp only[List.getElem?_cons_zero,Option.some.injEq] at e
  exact e▸h.1
 |a::xs,i+1,x,h,e=>by
  simp only[I.bV,Bool.and_eq_true] at h
  exact yg (xs:=xs) h.2 (by simpa using e)
theorem Kc{L:ep}{A:ae}{g:aB}(h:en L A)(hg:ij L g=true){v:I}(hv:bB A g.op=some v):∀ d,g.dst=some d→∀ ns,iY L d=some ns→v.only (fun n=>ns.contains n)=true:=by
 intro d hd ns hn
 obtain ⟨dst,op,gd⟩:=g
 simp only at hd hv
 subst hd
 simp only[ij,hn] at hg
 cases op <;>simp only at hg <;>(try (cases hg;done)) <;>simp only[bB] at hv <;>(try (cases hv;done))
 case mv x=>simp only[Option.some.injEq] at hv;exact hv▸rG h hg
 case nilC x =>
  have:=rG h hg
  generalize ab A x=u at hv this
  cases u <;>simp only[mG] at hv <;>first | (cases hv;done) | (simp only[Option.some.injEq] at hv;exact hv▸this)
 case bin op x y=>exact Qr _ hv
 case conv k x=>split at hv <;>first | (cases hv;done) | (simp only[Option.some.injEq] at hv;subst hv;rfl)
 case lenT x=>split at hv <;>first | (cases hv;done) | (simp only[Option.some.injEq] at hv;subst hv;rfl)
 case len x=>(repeat' split at hv) <;>first | (cases hv;done) | (simp only[Option.some.injEq] at hv;subst hv;rfl)
 case bs0 e=>simp only[Option.some.injEq] at hv;subst hv;rfl
 case bs e ps =>
  split at hv
  ·split at hv
   ·rename_i hc
    simp only[Option.some.injEq] at hv;subst hv
    simp only[I.only];exact kl _ _ hc.2
   ·cases hv
  ·cases hv
 case fa f off x =>
  have hx:=rG h hg
  split at hv
  ·rename_i fs he
   rw[he] at hx
   simp only[I.only] at hx
   split at hv
   ·rename_i u hu
    split at hv
    ·simp only[Option.some.injEq] at hv;subst hv
     simp only[I.only];exact yg hx hu
    ·cases hv
   ·cases hv
  ·rename_i n q he
   rw[he] at hx
   simp only[I.only] at hx
   split at hv
   ·split at hv
    ·simp only[Option.some.injEq] at hv;subst hv;simpa only[I.only] using hx
    ·cases hv
   ·cases hv
  ·cases hv
 case ia n esz x i =>
  have hx:=rG h hg
  split at hv
  case h_2=>cases hv
  split at hv
  case isFalse=>cases hv
  split at hv
  ·rename_i fs he
   rw[he] at hx
   simp only[I.only] at hx
   split at hv
   ·simp only[Option.map_eq_some_iff] at hv
    obtain ⟨u,hu,rfl⟩:=hv
    simp only[I.only];exact yg hx hu
   ·cases hv
  ·rename_i m q he
   rw[he] at hx
   simp only[I.only] at hx
   split at hv
   ·split at hv
    ·simp only[Option.some.injEq] at hv;subst hv;simpa only[I.only] using hx
    ·cases hv
   ·cases hv
  ·cases hv
def r0(A:ae)(dst:Option Nat)(s:I)(B:ae):Prop:=(∀ t,dst≠some t→B.t t=A.t t)∧(s.only (fun _=>false)=true→ee A B)
def nZ(A:ae)(dst:Option Nat)(s:I)(R:(ae→cL)→cL):Prop :=
 (∀ k,R k=.fail)∨(∃ B,(∀ k,R k=k B)∧r0 A dst s B)∨∃ (p:Nat→Prop) (bh:Nat→ae),(∀ k,R k=.any p fun m=>k (bh m))∧∀ m,r0 A dst s (bh m)
theorem rl{A B:ae}{dst:Option Nat}{v:I}{t:Nat}(ht:∀ k,B.t k=A.t k)(h:dst≠some t):(B.aO dst v).t t=A.t t:=by
 cases dst with
 |none=>exact ht t
 |some d =>
  have:t≠d:=fun e=>h (by rw[e])
  simp only[ae.aO,ae.put,if_neg this]
  exact ht t
theorem PX(A:ae)(dst:Option Nat)(esz bytes:Nat)(z s:I)(es ys:List I):nZ A dst s (gp A dst esz bytes z es ys):=by
 cases dst with
 |none=>exact .inl fun _=>rfl
 |some d =>
  cases ho:A.o d with
  |some y=>exact .inl fun k=>by simp only[gp,ho]
  |none =>
   by_cases hc:(es.length+ys.length)*bytes≤140737488355328∧es.length+ys.length≤maxLen
   ·refine .inr (.inr ⟨_,fun m=>(A.aM d (.box (.agg (es++(ys++List.replicate m z))))).aO (some d) (.view d [] esz 0 (es.length+ys.length)),fun k=>by simp only[gp,ho];rw[if_pos hc],fun m=>⟨fun t ht=>rl (A:=A) (B:=A.aM d _) (fun _=>rfl) ht,fun _ n y hy =>?_⟩⟩)
    have:n≠d:=fun e=>by rw[e,ho] at hy;cases hy
    rw[iF]
    simp only[ae.aM,if_neg this];exact hy
   ·exact .inl fun k=>by simp only[gp,ho];rw[if_neg hc]
theorem PZ(A:ae)(dst:Option Nat)(esz bytes:Nat)(z s:I)(es ys:Option (List I)):nZ A dst s (ff A dst esz bytes z s es ys):=by
 cases es with
 |none=>exact .inl fun _=>rfl
 |some es =>
  cases ys with
  |none=>exact .inl fun _=>rfl
  |some ys =>
   by_cases h0:ys=[]
   ·exact .inr (.inl ⟨A.aO dst s,fun k=>by simp only[ff,if_pos h0],fun t ht=>rl (A:=A) (fun _=>rfl) ht,fun _ n y hy=>by rw[iF];exact hy⟩)
   ·have gg:=fun s'=>PX A dst esz bytes z s' es ys
    cases s
    case nils=>simp only[nZ,ff,if_neg h0];exact gg _
    case c0=>simp only[nZ,ff,if_neg h0];exact gg _
    case view n p sz lo l =>
     cases ho:A.o n with
     |none=>exact .inl fun k=>by simp only[ff,if_neg h0,ho]
     |some y =>
      cases y with
      |box b =>
       cases hb:b.at p with
       |none=>exact .inl fun k=>by simp only[ff,if_neg h0,ho,hb]
       |some c =>
        cases c
        case agg fs =>
         by_cases h1:lo+l+ys.length≤fs.length
         ·by_cases h2:sz=esz∧I.cR ys=I.cR ((fs.drop (lo+l)).take ys.length)
          ·exact .inr (.inl ⟨(A.aM n (.box (iH b p (lo+l) fs ys))).aO dst (.view n p esz lo (l+ys.length)),fun k=>by simp only[ff,if_neg h0,ho,hb,if_pos h1];rw[if_pos h2],fun t ht=>rl (A:=A) (B:=A.aM n _) (fun _=>rfl) ht,fun h=>by simp[I.only] at h⟩)
          ·exact .inl fun k=>by simp only[ff,if_neg h0,ho,hb,if_pos h1];rw[if_neg h2]
         ·simp only[nZ,ff,if_neg h0,ho,hb,if_neg h1];exact gg _
        all_goals exact .inl fun k=>by simp only[ff,if_neg h0,ho,hb]
      |_=>exact .inl fun k=>by simp only[ff,if_neg h0,ho]
    all_goals exact .inl fun k=>by simp only[ff,if_neg h0]
theorem z8(A:ae)(dst:Option Nat)(e esz bytes:Nat)(z:I)(s x:aK)(rest:List aB):nZ A dst (ab A s) (bn A dst (.cS e esz bytes z s x) rest):=by
 generalize hs:ab A s=zd
 cases zd
 case own n l =>
  cases hx:ab A x
  case slice sz ys =>
   cases ho:A.o n with
   |none=>exact .inl fun k=>by simp only[bn,hs,hx,ho]
   |some y =>
    cases y with
    |bW T sz' es =>
     by_cases hc:x9 e esz bytes l sz ys T sz' es
     ·exact .inr (.inl ⟨(A.aM n (.bW e esz (es++ys))).aO dst (.own n (es.length+ys.length)),fun k=>by simp only[bn,hs,hx,ho];rw[if_pos hc],fun t ht=>rl (A:=A) (B:=A.aM n _) (fun _=>rfl) ht,fun h=>by simp[I.only] at h⟩)
     ·exact .inl fun k=>by simp only[bn,hs,hx,ho];rw[if_neg hc]
    |cU T xs =>
     by_cases hc:ya e esz bytes l ys T xs z
     ·exact .inr (.inl ⟨(A.aM n (.cU e (xs++qM ys))).aO dst (.own n (xs.length+ys.length)),fun k=>by simp only[bn,hs,hx,ho];rw[if_pos hc],fun t ht=>rl (A:=A) (B:=A.aM n _) (fun _=>rfl) ht,fun h=>by simp[I.only] at h⟩)
     ·exact .inl fun k=>by simp only[bn,hs,hx,ho];rw[if_neg hc]
    |_=>exact .inl fun k=>by simp only[bn,hs,hx,ho]
  all_goals exact .inl fun k=>by simp only[bn,hs,hx]
 all_goals (simp only[nZ,bn,hs];exact PZ ..)
theorem yw{A:ae}{d:Nat}{v:I}{n:Nat}{y:ah}{dst:Option Nat}{u:I}(h:dst≠some d):((A.put d v).aM n y).aO dst u=((A.aM n y).aO dst u).put d v:=by
 cases dst with
 |none=>rfl
 |some e =>
  have:e≠d:=fun he=>h (by rw[he])
  simp only[ae.aO,ae.put,ae.aM,ae.mk.injEq,and_true]
  funext k
  by_cases h1:k=e <;>by_cases h2:k=d <;>simp_all
theorem akU{A:ae}{d:Nat}{v:I}{dst:Option Nat}{u:I}(h:dst≠some d):(A.put d v).aO dst u=(A.aO dst u).put d v:=by
 cases dst with
 |none=>rfl
 |some e =>
  have:e≠d:=fun he=>h (by rw[he])
  simp only[ae.aO,ae.put,ae.mk.injEq,and_true]
  funext k
  by_cases h1:k=e <;>by_cases h2:k=d <;>simp_all
theorem PY{A:ae}{d:Nat}{v:I}{dst:Option Nat}(h:dst≠some d)(esz bytes:Nat)(z:I)(es ys:List I)(k:ae→cL):gp (A.put d v) dst esz bytes z es ys k=gp A dst esz bytes z es ys fun B=>k (B.put d v):=by
 cases dst with
 |none=>rfl
 |some e =>
  simp only[gp]
  have:(A.put d v).o=A.o:=rfl
  rw[this]
  cases A.o e with
  |some _=>rfl
  |none =>
   simp only
   split
   ·simp only[yw h]
   ·rfl
theorem P0{A:ae}{d:Nat}{v:I}{dst:Option Nat}(h:dst≠some d)(esz bytes:Nat)(z s:I)(es ys:Option (List I))(k:ae→cL):ff (A.put d v) dst esz bytes z s es ys k=ff A dst esz bytes z s es ys fun B=>k (B.put d v):=by
 have ho:(A.put d v).o=A.o:=rfl
 cases es with
 |none=>rfl
 |some es =>
  cases ys with
  |none=>rfl
  |some ys =>
   simp only[ff]
   split
   ·rw[akU h]
   ·cases s <;>simp only[PY h,ho]
    rename_i n p sz lo l
    cases A.o n with
    |none=>rfl
    |some y =>
     cases y with
     |box b =>
      simp only
      cases b.at p with
      |none=>rfl
      |some c =>
       cases c <;>simp only[yw h]
     |_=>rfl
theorem P2{A:ae}{d:Nat}{v:I}{dst:Option Nat}(h:dst≠some d){e esz bytes:Nat}{z:I}{s x:aK}(hag:dZ A (A.put d v) (s.sl++x.sl))(rest rest':List aB)(k:ae→cL) :
  bn (A.put d v) dst (.cS e esz bytes z s x) rest k=bn A dst (.cS e esz bytes z s x) rest' fun B=>k (B.put d v):=by
 have ho:(A.put d v).o=A.o:=rfl
 have hsrc:∀ y,ev (A.put d v) esz y=ev A esz y:=fun y=>by cases y <;>rfl
 simp only[bn,dg hag.l,dg hag.r,hsrc]
 cases ab A s <;>simp only[P0 h]
 rename_i n l
 cases ab A x <;>simp only[ho]
 cases A.o n with
 |none=>rfl
 |some y=>cases y <;>simp only[yw h]
theorem b9.Cv{L:ep}{f:FuncId}{avs:List I}{a1 a2:Option (List I)}{dst:Option Nat}{rest:List aB}{A:ae}(hi:en L A)(hd:∀ d,dst=some d→iY L d=none)(h:b9 P hs K (.call f avs a1 a2 dst rest A)) :
  bj P Y false (fun B=>b9 P hs K (ay rest B)∧en L B) (.call f avs a1 a2 dst [] A):=by
 have no:∀ {v:I},∀ d,dst=some d→∀ ns,iY L d=some ns→v.only (fun n=>ns.contains n)=true:=fun d e ns hn=>by rw[hd d e] at hn;cases hn
 cases h with
 |flat r hc hf hw=>exact .flat r hc hf (.done ⟨hw,hi.put (fun _=>rfl) no⟩)
 |lead r hc hw=>exact .lead r hc (.done ⟨hw,hi.put (fun _=>rfl) no⟩)
 |bX ρ cargs post hc hg ha hb hw=>exact .bX false ρ [] cargs post rfl hc hg (by simp only[jR,List.map_nil,X2];exact ha) hb fun r os' hp=>.done ⟨hw r os' hp,hi.put (B:=ar _ (dN ρ os'++_)) (fun _=>rfl) no⟩
 |x7 aC ρ os cargs post _ hc hg ha hb hw=>exact .bX aC ρ os cargs post rfl hc hg ha hb fun r os' hp=>.done ⟨hw r os' hp,hi.put (B:=ar _ (dN ρ os'++_)) (fun _=>rfl) no⟩
theorem b9.one{L:ep}{A:ae}{g:aB}{rest:List aB}(hi:en L A)(ho:oF g.op=true)(hL:ij L g=true)(h:b9 P hs K (bn A g.dst g.op rest (ay rest))):bj P Y false (fun B=>b9 P hs K (ay rest B)∧en L B) (bn A g.dst g.op [] (ay [])):=by
 have hval:=fun v (hv:bB A g.op=some v)=>Kc hi hL hv
 obtain ⟨dst,op,gd⟩:=g
 simp only at ho h hval ⊢
 have pure:jk op=true→bj P Y false (fun B=>b9 P hs K (ay rest B)∧en L B) (bn A dst op [] (ay [])):=by
  intro hsm
  rw[xl hsm] at h ⊢
  cases hv:bB A op with
  |none=>rw[hv] at h;cases h
  |some v=>rw[hv] at h;exact .done ⟨h,hi.put (fun _=>rfl) (hval v hv)⟩
 have unl:(∀ ns d,dst=some d→iY L d=some ns→ij L ⟨dst,op,gd⟩=false)→∀ d,dst=some d→iY L d=none:=fun h1 d hd=>by
  cases hn:iY L d with
  |none=>rfl
  |some ns=>rw[h1 ns d hd hn] at hL;cases hL
 cases op with
 |alloc z =>
  cases dst with
  |none=>simp only[bn] at h;cases h
  |some d =>
   simp only[bn] at h ⊢
   split at h
   case h_2=>cases h
   refine .done ⟨h,hi.put (B:=A.aM d _) (dst:=some d) (fun _=>rfl) fun d' e ns hn =>?_⟩
   simp only[Option.some.injEq] at e;subst e
   simpa only[ij,hn,I.only] using hL
 |box x =>
  cases dst with
  |none=>simp only[bn] at h;cases h
  |some d =>
   simp only[bn] at h ⊢
   split at h
   case h_2=>cases h
   split at h
   case isFalse=>cases h
   rename_i hv
   rw[if_pos hv]
   refine .done ⟨h,hi.put (B:=A.aM d _) (dst:=some d) (fun _=>rfl) fun d' e ns hn =>?_⟩
   simp only[Option.some.injEq] at e;subst e
   simpa only[ij,hn,I.only] using hL
 |bl s x v =>
  cases dst with
  |some d=>simp only[bn] at h;cases h
  |none =>
   simp only[bn] at h ⊢
   split at h
   case h_2=>cases h
   rename_i n p hx
   split at h
   case h_2=>cases h
   rename_i b hb
   split at h
   case h_2=>cases h
   rename_i old hold
   split at h
   case isFalse=>cases h
   rename_i hok
   simp only[if_pos hok]
   exact .done ⟨h,fun s ns hn=>hi s ns hn⟩
 |call f args=>exact b9.Cv hi (unl fun ns d e hn=>by subst e;simp only[ij,hn]) h
 |eH x args =>
  have hu:=unl fun ns d e hn=>by subst e;simp only[ij,hn]
  simp only[bn] at h ⊢
  split at h
  ·exact b9.Cv hi hu h
  ·cases h
  ·cases h
 |cS e esz bytes z s x =>
  have hu:=unl fun ns d e hn=>by subst e;simp only[ij,hn]
  have tg:∀ B,r0 A dst (ab A s) B→en L B:=fun B hB t ns hn=>by
   rw[hB.1 t fun e=>by rw[hu t e] at hn;cases hn]
   exact hi t ns hn
  have hf:=z8 A dst e esz bytes z s x
  rcases hf rest with h1 | ⟨B,h1,h2⟩ | ⟨p,bh,h1,h2⟩
  ·rw[h1] at h;cases h
  ·rw[h1] at h
   have:bn A dst (.cS e esz bytes z s x) [] (ay [])=ay [] B:=(show bn A dst (.cS e esz bytes z s x) [] (ay [])=bn A dst (.cS e esz bytes z s x) rest (ay []) from rfl).trans (h1 _)
   rw[this]
   exact .done ⟨h,tg B h2⟩
  ·rw[h1] at h
   have:bn A dst (.cS e esz bytes z s x) [] (ay [])=.any p fun m=>ay [] (bh m):=(show bn A dst (.cS e esz bytes z s x) [] (ay [])=bn A dst (.cS e esz bytes z s x) rest (ay []) from rfl).trans (h1 _)
   rw[this]
   exact .any rfl fun m hm=>.done ⟨h.zX m hm,tg _ (h2 m)⟩
 |_=>first | exact pure rfl | cases ho
def gn(g:aB)(A:ae)(v:I):Prop:=(gz A g∧v=.undef)∨(pass A g∧bB A g.op=some v)
theorem b9.y7{A:ae}{g:aB}{rest:List aB}(hs':jk g.op=true)(h:b9 P hs K (ay (g::rest) A)):∃ v,gn g A v∧b9 P hs K (ay rest (A.aO g.dst v)):=by
 have step:pass A g→b9 P hs K (bn A g.dst g.op rest (ay rest))→∃ v,gn g A v∧b9 P hs K (ay rest (A.aO g.dst v)):=by
  intro hp h
  rw[xl hs'] at h
  cases hv:bB A g.op with
  |none=>rw[hv] at h;cases h
  |some v=>rw[hv] at h;exact ⟨v,.inr ⟨hp,hv⟩,h⟩
 simp only[ay] at h
 split at h
 ·rename_i hg
  exact step (by simp only[pass,hg]) h
 ·rename_i t b hg
  split at h
  ·rename_i b' hb
   split at h
   ·rename_i hbb
    subst hbb
    exact step (by simp only[pass,hg];exact hb) h
   ·rename_i hbb
    exact ⟨_,.inl ⟨by simp only[gz,hg];exact .inl (by rw[hb,vf hbb]),rfl⟩,h⟩
  ·rename_i hb
   exact ⟨_,.inl ⟨by simp only[gz,hg];exact .inr hb,rfl⟩,h⟩
  ·cases h
theorem r8{A:ae}{g:aB}{rest:List aB}(hn:gz A g):ay (g::rest) A=ay rest (A.aO g.dst .undef):=by
 simp only[ay]
 cases hg:g.guard with
 |none=>simp only[gz,hg] at hn
 |some tb =>
  obtain ⟨t,b⟩:=tb
  simp only[gz,hg] at hn
  rcases hn with hn | hn
  ·simp only[hn];rw[if_neg (by cases b <;>simp)]
  ·simp only[hn]
theorem gn.to{A:ae}{g:aB}{rest:List aB}{v:I}(hs':jk g.op=true)(h:gn g A v):ay (g::rest) A=ay rest (A.aO g.dst v):=by
 rcases h with ⟨hn,rfl⟩ | ⟨hp,hv⟩
 ·exact r8 hn
 ·rw[n9 hp,xl hs',hv];rfl
theorem XM{A A':ae}{p:Nat→Bool}(ho:∀ n,p n=true→A'.o n=A.o n){x:I}(hx:x.only p=true):cv A' x=cv A x:=by
 cases x <;>simp only[cv]
 rename_i n q
 rw[ho n (by simpa[I.only] using hx)]
mutual
theorem YJ{A A':ae}{p:Nat→Bool}(ho:∀ n,p n=true→A'.o n=A.o n):∀ {x:I},x.only p=true→bd false A' x=bd false A x
 | .own n k,h=>by simp only[bd];rw[ho n (by simpa[I.only] using h)]
 | .func f caps,h=>by simp only[bd];rw[sL ho (xs:=caps) (by simpa[I.only] using h)]
 | .agg fs,h=>by simp only[bd];rw[sL ho (xs:=fs) (by simpa[I.only] using h)]
 | .undef,_ | .c9,_ | .bool _,_ | .int _ _,_ | .cX _,_ | .nilp,_ | .dj,_ | .dR,_ | .raw _,_ | .nils _,_ | .c0 _,_ | .slice _ _,_ | .tuple _,_ | .ref _,_ | .iface _ _,_ | .ptr _ _,_ | .view _ _ _ _ _,_ | .mref _,_ | .dx _,_ | .cT _ _,_=>by simp[bd]
theorem sL{A A':ae}{p:Nat→Bool}(ho:∀ n,p n=true→A'.o n=A.o n):∀ {xs:List I},I.bV p xs=true→bZ false A' xs=bZ false A xs
 | [],_=>rfl
 |x::xs,h=>by
  simp only[I.bV,Bool.and_eq_true] at h
  simp only[bZ,YJ ho h.1,sL ho h.2]
end
theorem Ko{p:Nat→Bool}{f:aK→I} : ∀ {xs:List aK},(∀ x∈xs,(f x).only p=true)→I.bV p (xs.map f)=true
 | [],_=>rfl
 |x::xs,h=>by
  simp only[List.map_cons,I.bV,Bool.and_eq_true]
  exact ⟨h x (by simp),Ko fun y hy=>h y (by simp[hy])⟩
theorem aiJ{A A':ae}{p:Nat→Bool}(ho:∀ n,p n=true→A'.o n=A.o n){x:I}(hx:x.only p=true):gw A' x=gw A x:=by
 cases x with
 |mref n=>simp only[gw];rw[ho n (by simpa[I.only] using hx)]
 |raw v=>cases v <;>first | rfl | (rename_i o;cases o <;>rfl)
 |_=>rfl
theorem akJ{A A':ae}{op:b6}{xs:List Nat}{p:Nat→Bool}(hm:nH op=some xs)(h:dZ A A' op.c7)(hx:∀ s∈xs,(A.t s).only p=true)(ho:∀ n,p n=true→A'.o n=A.o n):bB A' op=bB A op:=by
 have gU:op.gF=0→bB A' op=bB A op:=fun hc=>yu hc h
 have dl:=fun {x:I} (hx:x.only p=true)=>XM ho hx
 unfold nH at hm
 split at hm
 ·rename_i s x
  simp only[Option.some.injEq] at hm;subst hm
  have e:=h x (by simp[b6.c7,aK.sl])
  simp only[bB,ab,e,dl (hx x (by simp))]
 ·rename_i f off x
  simp only[Option.some.injEq] at hm;subst hm
  have e:=h x (by simp[b6.c7,aK.sl])
  have k:=hx x (by simp)
  simp only[bB,ab,e]
  generalize A.t x=u at k ⊢
  cases u with
  |ptr n q=>simp only[dl (x:=.ptr n q) k]
  |ref c=>cases c <;>rfl
  |_=>rfl
 ·rename_i n esz x i
  simp only[Option.some.injEq] at hm;subst hm
  have e:=h x (by simp[b6.c7,aK.sl])
  have ei:=dg (x:=i) (fun m hm=>h m (by simp[b6.c7,hm]))
  have k:=hx x (by simp)
  simp only[bB,ei]
  generalize ab A i=w
  simp only[ab,e]
  generalize A.t x=u at k ⊢
  cases u with
  |ptr n q=>simp only[dl (x:=.ptr n q) k]
  |ref c=>cases c <;>rfl
  |_=>rfl
 ·rename_i esz x i
  simp only[Option.some.injEq] at hm;subst hm
  have e:=h x (by simp[b6.c7,aK.sl])
  have ei:=dg (x:=i) (fun m hm=>h m (by simp[b6.c7,hm]))
  have k:=hx x (by simp)
  simp only[bB,ei]
  generalize ab A i=w
  simp only[ab,e]
  generalize A.t x=u at k ⊢
  cases u with
  |own n l=>simp only[ho n (by simpa[I.only] using k)]
  |view n q=>simp only[dl (x:=.ptr n q) (by simpa[I.only] using k)]
  |_=>rfl
 ·rename_i x
  simp only[Option.some.injEq] at hm;subst hm
  have e:=h x (by simp[b6.c7,aK.sl])
  have k:=hx x (by simp)
  simp only[bB,ab,e]
  generalize A.t x=u at k ⊢
  cases u with
  |own n l=>simp only[ho n (by simpa[I.only] using k)]
  |_=>rfl
 ·rename_i n esz x
  simp only[Option.some.injEq] at hm;subst hm
  have e:=h x (by simp[b6.c7,aK.sl])
  have k:=hx x (by simp)
  simp only[bB,ab,e]
  generalize A.t x=u at k ⊢
  cases u with
  |ptr n q=>simp only[dl (x:=.ptr n q) k]
  |ref c=>cases c <;>rfl
  |_=>rfl
 ·rename_i esz x lo hi mx
  simp only[Option.some.injEq] at hm;subst hm
  have e:=h x (by simp[b6.c7,aK.sl])
  have e1:=pA (x:=lo) (fun m hm=>h m (by simp[b6.c7,hm]))
  have e2:=pA (x:=hi) (fun m hm=>h m (by simp[b6.c7,hm]))
  have e3:=pA (x:=mx) (fun m hm=>h m (by simp[b6.c7,hm]))
  have k:=hx x (by simp)
  simp only[bB,e1,e2,e3]
  generalize lo.map (ab A)=w1
  generalize hi.map (ab A)=w2
  generalize mx.map (ab A)=w3
  simp only[ab,e]
  generalize A.t x=u at k ⊢
  cases u with
  |view n q=>simp only[dl (x:=.ptr n q) (by simpa[I.only] using k)]
  |_=>rfl
 ·rename_i x
  simp only[Option.some.injEq] at hm;subst hm
  have e:=h x (by simp[b6.c7,aK.sl])
  have k:=hx x (by simp)
  simp only[bB,ab,e]
  generalize A.t x=u at k ⊢
  cases u with
  |view n q=>simp only[dl (x:=.ptr n q) (by simpa[I.only] using k)]
  |_=>rfl
 ·rename_i ty z ok x kk
  simp only[Option.some.injEq] at hm;subst hm
  have e:=h x (by simp[b6.c7,aK.sl])
  have ek:=dg (x:=kk) (fun m hm=>h m (by simp[b6.c7,hm]))
  have k:=hx x (by simp)
  simp only[bB,ek]
  generalize ab A kk=w
  simp only[ab,e,aiJ ho k]
 ·rename_i esz ps
  split at hm
  case isFalse=>cases hm
  rename_i hall
  simp only[Option.some.injEq] at hm;subst hm
  have hev:ps.map (ab A')=ps.map (ab A):=mn h
  have hon:I.bV p (ps.map (ab A))=true:=Ko fun x hx'=>by
   have h1:=List.all_eq_true.1 hall x hx'
   cases x with
   |c _=>cases h1
   |t s=>exact hx s (by simp only[jY,List.mem_flatMap];exact ⟨_,hx',by simp[aK.sl]⟩)
  simp only[bB,hev,sL ho hon]
 ·rfl
 ·split at hm
  ·rename_i hc;exact gU hc.1
  ·cases hm
theorem zZ{L:ep}{A:ae}{g:aB}{p:Nat→Bool}(hi:en L A)(h:r9 L g p=true):∃ xs,nH g.op=some xs∧∀ s∈xs,(A.t s).only p=true:=by
 unfold r9 at h
 split at h
 case h_2=>cases h
 rename_i xs hm
 refine ⟨xs,hm,fun s hs' =>?_⟩
 have h1:=List.all_eq_true.1 h s hs'
 split at h1
 case h_2=>cases h1
 rename_i ns hn
 exact jc (fun n h2=>List.all_eq_true.1 h1 n (by simpa using h2)) _ (hi s ns hn)
theorem gn.xS{A A':ae}{g:aB}{v:I}{xs:List Nat}{p:Nat→Bool}(h:gn g A v)(hm:nH g.op=some xs)(ha:dZ A A' g.c7)(hx:∀ s∈xs,(A.t s).only p=true)(ho:∀ n,p n=true→A'.o n=A.o n):gn g A' v:=by
 rcases h with ⟨h,rfl⟩ | ⟨h,k⟩
 ·exact .inl ⟨pU ha h,rfl⟩
 ·exact .inr ⟨nM ha h,by rw[akJ hm (aB.km ha) hx ho];exact k⟩
theorem gn.tg{L:ep}{A:ae}{g:aB}{v:I}(hi:en L A)(hg:ij L g=true)(h:gn g A v):en L (A.aO g.dst v):=by
 rcases h with ⟨_,rfl⟩ | ⟨_,k⟩
 ·exact hi.put (fun _=>rfl) fun _ _ _ _=>rfl
 ·exact hi.put (fun _=>rfl) (Kc hi hg k)
theorem gn.cK{A A':ae}{g:aB}{v:I}(h:gn g A v)(hu:ee A A')(ha:dZ A A' g.c7):gn g A' v:=by
 rcases h with ⟨h,rfl⟩ | ⟨h,k⟩
 ·exact .inl ⟨pU ha h,rfl⟩
 ·exact .inr ⟨nM ha h,KG hu (aB.km ha) k⟩
theorem Jn{L:ep}{g h:aB}(hi:nB hs L g h=true):jk g.op=true∧oG hs L g h=true∧(∀ d,g.dst=some d→d∉h.c7)∧(∀ d,g.dst=some d→h.dst≠some d)∧(∀ d,h.dst=some d→d∉g.c7):=by
 simp only[nB,Bool.and_eq_true] at hi
 obtain ⟨h1,h2,h3,h4⟩:=hi
 refine ⟨h1,h2,fun d hd =>?_,fun d hd =>?_,fun d hd =>?_⟩
 ·rw[hd] at h3;simp at h3;exact h3.1
 ·rw[hd] at h3;simp at h3;exact h3.2
 ·rw[hd] at h4;simpa using h4
theorem Ae{aC:Bool}{A A':ae}{ρ:List (Nat×Nat)}{os:List (Nat×ah)}(hu:ee A A'):∀ {xs cs:List I},jq aC A ρ os xs cs→jq aC A' ρ os xs cs
 | [],[],_=>trivial
 |x::xs,c::cs,h=>⟨h.1.imp id fun h=>Dr hu h,Ae hu h.2⟩
 | [],_::_,h=>h.elim
 |_::_,[],h=>h.elim
theorem aiQ{A:ae}{d:Option Nat}{v:I}{ts:List (Nat×I)}{os:List (Nat×ah)}(h:A.aO d v=ar ts os):∃ ts2,A=ar ts2 os∧∀ X:List (Nat×ah),(ar ts2 X).aO d v=ar ts X:=by
 cases d with
 |none=>exact ⟨ts,h,fun _=>rfl⟩
 |some d =>
  have ht:∀ k,(A.aO (some d) v).t k=bO ts k:=fun k=>by rw[h];rfl
  have ho:A.o=ak os:=by
   have:(A.aO (some d) v).o=ak os:=by rw[h];rfl
   rwa [iF] at this
  refine ⟨(d,A.t d)::ts,?_,fun X =>?_⟩
  ·cases A with
   |mk t o =>
    simp only[ar,ae.mk.injEq]
    refine ⟨funext fun k =>?_,ho⟩
    have:=ht k
    simp only[ae.aO,ae.put] at this
    simp only[bO]
    by_cases hk:k=d
    ·subst hk;simp
    ·rw[if_neg hk] at this
     have hk':¬ d=k:=fun e=>hk e.symm
     simp only[hk,if_false]
     exact this
  ·simp only[ae.aO,ae.put,ar,ae.mk.injEq,and_true]
   funext k
   have:=ht k
   simp only[ae.aO,ae.put] at this
   by_cases hk:k=d
   ·subst hk;simp at this ⊢;exact this
   ·have hk':¬ d=k:=fun e=>hk e.symm
    simp only[bO,hk,if_false]
theorem akH{ρ:List (Nat×Nat)}{os0 os':List (Nat×ah)}{r:I}(hb:eC false ρ [] os0 r os'){n:Nat}{x:ah}(hx:ak os0 n=some x):ak (dN ρ os'++os0) n=some x:=by
 rw[qT]
 cases hp:pre ρ os' n with
 |none=>exact hx
 |some m =>
  obtain ⟨h1,h2⟩:=lV hp
  have:=(hb.pQ m h1 (by simp[aq,ak])).1
  rw[h2,hx] at this
  cases this
theorem b9.SE{A B:ae}{j:aB}{v:I}{f:FuncId}{args:List aK}{dst:Option Nat}{rest:List aB}(hj:jk j.op=true)(hv:gn j A v)(hB:B=A.aO j.dst v)(hf:hs.contains f=false)(hag:dZ A B (jY args))(hd:∀ d,j.dst=some d→dst≠some d)(hr:∀ d,dst=some d→d∉j.c7)
  (h:b9 P hs K (.call f (args.map (ab B)) (bZ true B (args.map (ab B))) (bZ false B (args.map (ab B))) dst rest B)):b9 P hs K (.call f (args.map (ab A)) (bZ true A (args.map (ab A))) (bZ false A (args.map (ab A))) dst (j::rest) A):=by
 have eo:B.o=A.o:=by rw[hB,iF]
 have cK:ee B A:=fun n x hx=>by rwa [←eo]
 have up':ee A B:=fun n x hx=>by rwa [eo]
 have eav:args.map (ab B)=args.map (ab A):=mn hag
 rw[eav] at h
 have cont:∀ r:I,b9 P hs K (ay rest (B.aO dst r))→b9 P hs K (ay (j::rest) (A.aO dst r)):=fun r hw=>by
  have h1:gn j (A.aO dst r) v:=hv.cK (fun n x hx=>by rwa [iF]) (mL hr)
  rw[h1.to hj,p8 (fun d hd'=>fun e=>hd d e hd'),←hB]
  exact hw
 generalize e1:bZ true B (args.map (ab A))=a1 at h
 generalize e2:bZ false B (args.map (ab A))=a2 at h
 generalize hBm:B=B0 at h
 cases h with
 |flat r hc hfl hw =>
  subst hBm
  rw[lI cK e1]
  exact .flat r hc hfl (cont r hw)
 |lead r hc hw =>
  subst hBm
  rw[lI cK e2]
  exact .lead r hc (cont r hw)
 |bX ρ cargs post hc hg ha hb hw =>
  rename_i ts os0
  rw[hB] at hBm
  obtain ⟨ts2,hA,hts⟩:=aiQ hBm
  have hA':=hA
  clear cont
  subst hA
  refine .bX ρ cargs post hc hg (Ae (A:=ar ts os0) (A':=ar ts2 os0) (fun n x hx=>hx) ha) hb fun r os' hp =>?_
  have h1:gn j ((ar ts2 (dN ρ os'++os0)).aO dst (r.aR (bJ ρ))) v:=hv.cK (fun n x hx=>by
   rw[iF]
   exact akH (hb r os' hp) hx) (fun k hk=>by
    have:=mL (A:=ar ts2 (dN ρ os'++os0)) (v:=r.aR (bJ ρ)) hr k hk
    rw[this];rfl)
  rw[h1.to hj,p8 (fun d hd'=>fun e=>hd d e hd'),hts]
  exact hw r os' hp
 |x7 aC ρ os cargs post hfs =>
  rw[hf] at hfs;cases hfs
theorem b9.swap{L:ep}{A:ae}{j g:aB}{rest:List aB}(hinv:en L A)(hi:nB hs L j g=true)(hw:b9 P hs K (ay (j::g::rest) A)):b9 P hs K (ay (g::j::rest) A):=by
 obtain ⟨hj,hl,i1,i2,i3⟩:=Jn hi
 obtain ⟨v,hv,hw⟩:=b9.y7 hj hw
 have ag:dZ (A.aO j.dst v) A g.c7:=(mL i1).symm
 have ag':dZ A (A.aO j.dst v) g.c7:=mL i1
 have cK:ee (A.aO j.dst v) A:=fun n x hx=>by rwa [iF] at hx
 have up':∀ (d:Option Nat) (u:I),ee A (A.aO d u):=fun d u n x hx=>by rwa [iF]
 by_cases hsg:jk g.op=true
 ·obtain ⟨u,hu,hw⟩:=b9.y7 hsg hw
  rw[(hu.cK cK ag).to hsg,(hv.cK (up' _ _) (mL i3)).to hj,←p8 i2]
  exact hw
 ·-- the guard
  have guard:(gz (A.aO j.dst v) g∧ay (g::rest) (A.aO j.dst v)=ay rest ((A.aO j.dst v).aO g.dst .undef))∨(pass (A.aO j.dst v) g∧ay (g::rest) (A.aO j.dst v)=bn (A.aO j.dst v) g.dst g.op rest (ay rest))∨ay (g::rest) (A.aO j.dst v)=.fail:=by
   cases hg:g.guard with
   |none=>exact .inr (.inl ⟨by simp only[pass,hg],by simp only[ay,hg]⟩)
   |some tb =>
    obtain ⟨t,b⟩:=tb
    cases ht:(A.aO j.dst v).t t with
    |bool b' =>
     by_cases hbb:b'=b
     ·subst hbb
      have hp:pass (A.aO j.dst v) g:=by simp only[pass,hg,ht]
      exact .inr (.inl ⟨hp,n9 hp⟩)
     ·have hn:gz (A.aO j.dst v) g:=by simp only[gz,hg];exact .inl (by rw[ht,vf hbb])
      exact .inl ⟨hn,r8 hn⟩
    |undef =>
     have hn:gz (A.aO j.dst v) g:=by simp only[gz,hg];exact .inr ht
     exact .inl ⟨hn,r8 hn⟩
    |_=>exact .inr (.inr (by simp only[ay,hg,ht]))
  rcases guard with ⟨hn,he⟩ | ⟨hp,he⟩ | he
  ·rw[he] at hw
   rw[r8 (pU ag hn),(hv.cK (up' _ _) (mL i3)).to hj,←p8 i2]
   exact hw
  ·rw[he] at hw
   rw[n9 (nM ag hp)]
   obtain ⟨dst,op,gd⟩:=g
   simp only at hw hsg i2 i3 ⊢
   cases op with
   |alloc z =>
    cases dst with
    |none=>simp only[bn] at hw;cases hw
    |some d =>
    simp only[bn] at hw ⊢
    split at hw
    case h_2=>cases hw
    rename_i ho
    rw[iF] at ho
    simp only[ho]
    have h1:gn j ((A.aM d (.box z)).put d (.ptr d [])) v:=hv.cK (fun n y hy=>by
     have:n≠d:=fun he=>by rw[he,ho] at hy;cases hy
     simp only[ae.put,ae.aM,this,if_false];exact hy) (fun k hk=>by
     have:k≠d:=fun he=>i3 d rfl (he▸hk)
     simp only[ae.put,ae.aM,this,if_false])
    rw[h1.to hj]
    have e:((A.aO j.dst v).aM d (.box z)).put d (.ptr d [])=((A.aM d (.box z)).put d (.ptr d [])).aO j.dst v:=by
     cases hgd:j.dst with
     |none=>rfl
     |some e =>
      have hne:e≠d:=fun he=>i2 e hgd (by rw[he])
      simp only[ae.aO,ae.put,ae.aM,ae.mk.injEq,and_true]
      funext k
      by_cases h1:k=e <;>by_cases h2:k=d <;>simp_all
    rw[←e];exact hw
   |box x =>
    have ex:ab (A.aO j.dst v) x=ab A x:=dg (aB.km ag')
    cases dst with
    |none=>simp only[bn] at hw;cases hw
    |some d =>
    simp only[bn] at hw ⊢
    split at hw
    case h_2=>cases hw
    rename_i ho
    rw[iF] at ho
    simp only[ho]
    rw[ex] at hw
    split at hw
    case isFalse=>cases hw
    rename_i hval
    rw[if_pos hval]
    have h1:gn j ((A.aM d (.box (ab A x))).put d (.ptr d [])) v:=hv.cK (fun n y hy=>by
     have:n≠d:=fun he=>by rw[he,ho] at hy;cases hy
     simp only[ae.put,ae.aM,this,if_false];exact hy) (fun k hk=>by
     have:k≠d:=fun he=>i3 d rfl (he▸hk)
     simp only[ae.put,ae.aM,this,if_false])
    rw[h1.to hj]
    have e:((A.aO j.dst v).aM d (.box (ab A x))).put d (.ptr d [])=((A.aM d (.box (ab A x))).put d (.ptr d [])).aO j.dst v:=by
     cases hgd:j.dst with
     |none=>rfl
     |some e =>
      have hne:e≠d:=fun he=>i2 e hgd (by rw[he])
      simp only[ae.aO,ae.put,ae.aM,ae.mk.injEq,and_true]
      funext k
      by_cases h1:k=e <;>by_cases h2:k=d <;>simp_all
    rw[←e];exact hw
   |call f args =>
    simp only[bn] at hw ⊢
    refine b9.SE hj hv rfl (by simpa[oG,pJ] using hl) (aB.km ag') i2 i3 hw
   |bl s y u =>
    cases dst with
    |some d=>simp only[bn] at hw;cases hw
    |none =>
    have ey:ab (A.aO j.dst v) y=ab A y:=dg (aB.km ag').l
    have eu:ab (A.aO j.dst v) u=ab A u:=dg (aB.km ag').r
    simp only[bn] at hw ⊢
    rw[ey,eu,iF] at hw
    cases hx:ab A y <;>simp only[hx] at hw ⊢ <;>try (cases hw;done)
    rename_i n q
    cases ho:A.o n with
    |none=>rw[ho] at hw;cases hw
    |some ob =>
    rw[ho] at hw
    cases ob <;>simp only at hw ⊢ <;>try (cases hw;done)
    rename_i b
    cases hb:b.at q with
    |none=>rw[hb] at hw;cases hw
    |some old =>
    rw[hb] at hw
    simp only at hw ⊢
    split at hw
    case isFalse=>cases hw
    rename_i hok
    rw[if_pos hok]
    have h1:gn j (A.aM n (.box (b.dF q (ab A u)))) v:=by
     have none0:nH j.op=some []→gn j (A.aM n (.box (b.dF q (ab A u)))) v:=fun hm=>hv.xS (p:=fun _=>false) hm (fun _ _=>rfl) (fun s hs'=>by cases hs') (fun m hm=>by cases hm)
     cases y with
     |c y =>
      simp only[oG,pJ,jk,Bool.false_or] at hl
      split at hl
      ·rename_i hm;exact none0 hm
      ·cases hl
     |t y =>
      simp only[oG,pJ,jk,Bool.false_or] at hl
      split at hl
      ·rename_i hm;exact none0 hm
      ·split at hl
       case h_2=>cases hl
       rename_i ms hms
       obtain ⟨xs,hm,hx2⟩:=zZ hinv hl
       refine hv.xS hm (fun _ _=>rfl) hx2 fun m hm2 =>?_
       have hn:=hinv y ms hms
       simp only[ab] at hx
       rw[hx] at hn
       have:m≠n:=fun e=>by subst e;simp[I.only] at hn hm2;exact hm2 hn
       simp only[ae.aM,if_neg this]
    rw[h1.to hj]
    have e:(A.aO j.dst v).aM n (.box (b.dF q (ab A u)))=(A.aM n (.box (b.dF q (ab A u)))).aO j.dst v:=by cases j.dst <;>rfl
    rw[←e];exact hw
   |cS e esz bytes z s x =>
    have hag:dZ A (A.aO j.dst v) (s.sl++x.sl):=aB.km ag'
    have he2:bn (A.aO j.dst v) dst (.cS e esz bytes z s x) rest (ay rest)=bn A dst (.cS e esz bytes z s x) (j::rest) fun B=>ay rest (B.aO j.dst v):=by
     cases hjd:j.dst with
     |none=>rfl
     |some d =>
      rw[hjd] at hag
      exact P2 (fun e=>i2 d hjd e) hag rest (j::rest) (ay rest)
    rw[he2] at hw
    have ke:∀ B,r0 A dst (ab A s) B→ay (j::rest) B=ay rest (B.aO j.dst v):=fun B hB=>by
     have hagB:dZ A B j.c7:=fun k hk=>hB.1 k fun e=>i3 k e hk
     have:gn j B v:=by
      simp only[oG,pJ,jk,Bool.false_or,Bool.or_eq_true] at hl
      rcases hl with hl | hl
      ·obtain ⟨xs,hm,hx2⟩:=zZ hinv hl
       exact hv.xS hm hagB hx2 fun m hm2=>by cases hm2
      ·have:=rG hinv hl
       exact hv.cK (hB.2 (by simpa using this)) hagB
     rw[this.to hj]
    rcases z8 A dst e esz bytes z s x (j::rest) with h1 | ⟨B,h1,h2⟩ | ⟨p,bh,h1,h2⟩
    ·rw[h1] at hw;cases hw
    ·rw[h1] at hw ⊢;rw[ke B h2];exact hw
    ·rw[h1] at hw ⊢
     exact .any fun m hm=>by rw[ke _ (h2 m)];exact hw.zX m hm
   |_=>first | exact absurd rfl hsg | (simp[oG,pJ,jk] at hl)
  ·rw[he] at hw;cases hw
theorem b9.ph{L:ep}{g:aB} : ∀ {l:List aB} {r:List aB} {A:ae},en L A→(∀ j∈l,nB hs L j g=true∧ij L j=true)→b9 P hs K (ay (l++g::r) A)→b9 P hs K (ay (g::(l++r)) A)
 | [],r,A,_,_,h=>h
 |j::l,r,A,hinv,hi,h=>by
  have hj:=(Jn (hi j (by simp)).1).1
  obtain ⟨v,hv,h2⟩:=b9.y7 (g:=j) (rest:=l++g::r) hj h
  have h3:=b9.ph (l:=l) (r:=r) (hv.tg hinv (hi j (by simp)).2) (fun k hk=>hi k (by simp[hk])) h2
  refine b9.swap hinv (hi j (by simp)).1 ?_
  rw[hv.to hj];exact h3
end
def qX:List Nat→Bool
 | []=>true
 |a::l => !l.contains a&&qX l
def qn(hs:List FuncId)(L:ep)(gs:List aB)(cl:List Nat):List Nat→List Nat→Bool
 |_,[]=>true
 |before,i::σ=>(before.all fun j=>(cl.getD i 0).testBit j||nB hs L (gs.getD j default) (gs.getD i default))&&qn hs L gs cl (i::before) σ
def tV(hs:List FuncId)(L:ep)(on:List (List Nat))(gs:List aB)(cl:List Nat)(σ:List Nat):Bool :=
 (Nat.beq σ.length gs.length&&(qX σ&&(σ.all (fun i=>decide (i<gs.length))&&((List.range gs.length).all (fun i=>σ.contains i)&&gs.all fun g=>oF g.op&&ij L g))))&&(qn hs L gs cl [] σ&&(List.range gs.length).all fun i=>(on.getD i []).all (fun k=>decide (k<i))&&Nat.beq (cl.getD i 0) (nW cl (on.getD i [])))
theorem x4:∀ {l:List Nat},qX l=true→l.Nodup
 | [],_=>List.nodup_nil
 |a::l,h=>by
  simp only[qX,Bool.and_eq_true,Bool.not_eq_true',List.contains_eq_mem,decide_eq_false_iff_not] at h
  exact List.nodup_cons.2 ⟨h.1,x4 h.2⟩
theorem uW{hs:List FuncId}{L:ep}{gs:List aB}{cl:List Nat} : ∀ {σ before:List Nat},qn hs L gs cl before σ=true→∀ s1 i s2,σ=s1++i::s2→∀ j,j∈before∨j∈s1→(cl.getD i 0).testBit j=true∨nB hs L (gs.getD j default) (gs.getD i default)=true
 | [],_,_,s1,i,s2,e,_,_=>by cases s1 <;>cases e
 |a::σ,before,h,s1,i,s2,e,j,hj=>by
  simp only[qn,Bool.and_eq_true,List.all_eq_true,Bool.or_eq_true] at h
  cases s1 with
  |nil =>
   simp only[List.nil_append,List.cons.injEq] at e
   obtain ⟨rfl,rfl⟩:=e
   rcases hj with hj | hj
   ·exact h.1 j hj
   ·cases hj
  |cons b s1 =>
   simp only[List.cons_append,List.cons.injEq] at e
   obtain ⟨rfl,rfl⟩:=e
   refine uW h.2 s1 i s2 rfl j ?_
   rcases hj with hj | hj
   ·exact .inl (List.mem_cons_of_mem _ hj)
   ·rcases List.mem_cons.1 hj with hj | hj
    ·exact .inl (by rw[hj];exact List.mem_cons_self)
    ·exact .inr hj
def eV(σ:List Nat)(listed:Array Bool):List Nat:=σ.filter fun i => !listed.getD i true
def jy(gs:List aB)(σ:List Nat)(listed:Array Bool):List aB:=(eV σ listed).map fun i=>gs.getD i default
theorem MH{σ:List Nat}{listed:Array Bool}{i:Nat}(hn:σ.Nodup)(hi:i∈σ)(hl:i<listed.size)(hu:listed.getD i true=false):∃ s1 s2,σ=s1++i::s2∧eV σ listed=(s1.filter fun j => !listed.getD j true)++i::(s2.filter fun j => !listed.getD j true) ∧
  eV σ (listed.setIfInBounds i true)=(s1.filter fun j => !listed.getD j true)++(s2.filter fun j => !listed.getD j true):=by
 obtain ⟨s1,s2,rfl⟩:=List.append_of_mem hi
 have same:∀ j,j≠i→(listed.setIfInBounds i true).getD j true=listed.getD j true:=fun j hj=>getD_set_ne true (Ne.symm hj)
 have hit:(listed.setIfInBounds i true).getD i true=true:=by simp[hl]
 have hnd:=List.nodup_append.1 hn
 have h1:∀ j∈s1,j≠i:=fun j hj=>hnd.2.2 j hj i List.mem_cons_self
 have h2:∀ j∈s2,j≠i:=fun j hj e=>(List.nodup_cons.1 hnd.2.1).1 (e▸hj)
 refine ⟨s1,s2,rfl,?_,?_⟩
 ·simp only[eV,List.filter_append,List.filter_cons,hu,Bool.not_false,if_true]
 ·simp only[eV,List.filter_append,List.filter_cons,hit,Bool.not_true,Bool.false_eq_true,if_false]
  congr 1
  ·exact List.filter_congr fun j hj=>by rw[same j (h1 j hj)]
  ·exact List.filter_congr fun j hj=>by rw[same j (h2 j hj)]
structure zP (hs:List FuncId) (L:ep) (l:List Oper) (gs:List aB) (σ:List Nat):Prop where
 tK:σ.Nodup
 lt:∀ i∈σ,i<gs.length
 all:∀ i,i<gs.length→i∈σ
 ok:∀ g∈gs,oF g.op=true∧ij L g=true
 len:σ.length=gs.length
 m5:∀ i o,l[i]?=some o→∀ k∈cZ o,k<i
 qL:∀ (S:Nat→Prop),(∀ i o,l[i]?=some o→S i→∀ k∈cZ o,S k)→∀ s1 i s2 o,σ=s1++i::s2→l[i]?=some o→(∀ k∈cZ o,S k)→∀ j∈s1,¬ S j→nB hs L (gs.getD j default) (gs.getD i default)=true
theorem aky{hs:List FuncId}{L:ep}{l:List Oper}{gs:List aB}{cl σ:List Nat}(hlen:gs.length=l.length)(h:tV hs L (l.map cZ) gs cl σ=true):zP hs L l gs σ:=by
 simp only[tV,Bool.and_eq_true,List.all_eq_true,decide_eq_true_eq,List.mem_range,List.contains_eq_mem] at h
 obtain ⟨⟨h1,h2,h3,h4,h5⟩,h6,h7⟩:=h
 have da:∀ i o,l[i]?=some o→(∀ k∈cZ o,k<i)∧(∀ j,(cl.getD i 0).testBit j=true→j∈cZ o∨∃ k∈cZ o,(cl.getD k 0).testBit j=true):=by
  intro i o ho
  have hi:i<l.length:=(List.getElem?_eq_some_iff.1 ho).1
  have h8:=h7 i (by omega)
  have hon:(l.map cZ).getD i []=cZ o:=by simp[List.getD_eq_getElem?_getD,ho]
  rw[hon] at h8
  have hb:=Nat.eq_of_beq_eq_true h8.2
  exact ⟨h8.1,fun j hj=>uA (by rw[←hb];exact hj)⟩
 refine ⟨x4 h2,h3,h4,h5,Nat.eq_of_beq_eq_true h1,fun i o ho=>(da i o ho).1,?_⟩
 intro S hS s1 i s2 o e ho hon j hj hnj
 have key:∀ n i o,i≤n→l[i]?=some o→(∀ k∈cZ o,S k)→∀ j,(cl.getD i 0).testBit j=true→S j:=by
  intro n
  induction n with
  |zero =>
   intro i o hi ho hon j hj
   obtain ⟨h8,h9⟩:=da i o ho
   rcases h9 j hj with h | ⟨k,hk,_⟩
   ·exact hon j h
   ·have:=h8 k hk;omega
  |succ n ih =>
   intro i o hi ho hon j hj
   obtain ⟨h8,h9⟩:=da i o ho
   rcases h9 j hj with h | ⟨k,hk,hjk⟩
   ·exact hon j h
   ·have hki:=h8 k hk
    have hkl:k<l.length:=Nat.lt_trans hki (List.getElem?_eq_some_iff.1 ho).1
    obtain ⟨ok,hok⟩:∃ ok,l[k]?=some ok:=⟨l[k],List.getElem?_eq_getElem hkl⟩
    exact ih k ok (by omega) hok (hS k ok hok (hon k hk)) j hjk
 rcases uW h6 s1 i s2 e j (.inr hj) with h | h
 ·exact absurd (key i i o (Nat.le_refl _) ho hon j h) hnj
 ·exact h
section
variable {c:cM}
theorem xk{K:ae→Prop}{hs:List FuncId}{L:ep}{bC:Array Oper}{Q:Exit→Act→World→Prop}{o:Oper}{g:aB}{rest:List aB}{A:ae}{a:Act}{w:World}{Kw:Act→World→Prop}(hg:pk c.P c.n bC o=some g)(hi:en L A)(ho:oF g.op=true∧ij L g=true)(hwp:b9 c.P hs K (ay (g::rest) A))(hs':cj c A a w)
  (hK:∀ B a' w',b9 c.P hs K (ay rest B)→en L B→cj c B a' w'→Kw a' w'):if Region.wanted o (yielded bC a.tmps) then o.wpIn c.bh 9 c.P a w Kw Q else (∀ f,o.about c.P w a.eval=some f→c.bh.fn f)∧Kw (a.put o.dst undef) w:=by
 obtain ⟨h1,h2,h3,h4⟩:=vl hg
 have step:b9 c.P hs K (bn A g.dst g.op rest (ay rest))→o.wpIn c.bh 9 c.P a w Kw Q:=fun h =>
  xm h1 h2.symm (by rw[h2];exact h3) (b9.one (Y:=c.Y) hi ho.1 ho.2 h) hs' (fun B a' w' hw hs2=>by
   cases hw with
   |done hk=>exact hK B a' w' hk.1 hk.2 hs2)
 simp only[ay] at hwp
 rcases h4 with ⟨h5,h6⟩ | ⟨j,b,t,h5,h6,h7⟩
 ·rw[h6] at hwp
  have hw:Region.wanted o (yielded bC a.tmps)=true:=by simp[Region.wanted,h5]
  rw[hw,if_pos rfl]
  exact step hwp
 ·rw[h7] at hwp
  simp only at hwp
  split at hwp
  ·rename_i b' hb'
   rw[xy hs' h5 h6 hb']
   split at hwp
   ·rename_i hbb
    subst hbb
    simp only[BEq.rfl,if_true]
    exact step hwp
   ·rename_i hbb
    have:(b'==b)=false:=by simpa using hbb
    rw[this]
    simp only[Bool.false_eq_true,if_false]
    exact ⟨fun f _=>oi c f,hK _ _ _ hwp (hi.put (fun _=>rfl) fun _ _ _ _=>rfl) (by rw[h2];exact hs'.p7 h3)⟩
  ·rename_i hb'
   rw[xz hs' h5 h6 hb']
   simp only[Bool.false_eq_true,if_false]
   exact ⟨fun f _=>oi c f,hK _ _ _ hwp (hi.put (fun _=>rfl) fun _ _ _ _=>rfl) (by rw[h2];exact hs'.p7 h3)⟩
  ·cases hwp
theorem PU{K:ae→Prop}{fs:List FuncId}{L:ep}{bC:Array Oper}{gs:List aB}{σ:List Nat}{Q:Exit→Act→World→Prop}(hQ:∀ B a w,K B→cj c B a w→Q .normal a w)(hgs:j9 c.P c.n bC bC.toList=some gs)(hd:zP fs L bC.toList gs σ) :
  ∀ (fuel:Nat) (listed:Array Bool) (A:ae) (a:Act) (w:World),listed.size=bC.size→(∀ i o,bC.toList[i]?=some o→listed.getD i false=true→∀ k∈cZ o,listed.getD k false=true)→(eV σ listed).length≤fuel →
   en L A→b9 c.P fs K (ay (jy gs σ listed) A)→cj c A a w→wpAnyIn c.bh 9 c.P .any bC Q fuel listed a w:=by
 obtain ⟨hlen,hat⟩:=ka hgs
 have onOf_mem:∀ (o:Oper) (e:Edge),e∈o.after→Region.binds .any e=true→e.on∈cZ o:=fun o e he hb=>by
  simp only[cZ,List.mem_map,List.mem_filter]
  exact ⟨e,⟨by simpa using he,hb⟩,rfl⟩
 have of_onOf:∀ (o:Oper) (k:Nat),k∈cZ o→∃ e∈o.after,Region.binds .any e=true∧e.on=k:=fun o k hk=>by
  simp only[cZ,List.mem_map,List.mem_filter] at hk
  obtain ⟨e,⟨h1,h2⟩,h3⟩:=hk
  exact ⟨e,by simpa using h1,h2,h3⟩
 have hgl:gs.length=bC.size:=by rw[hlen,Array.length_toList]
 have last:∀ (listed:Array Bool) (A:ae) (a:Act) (w:World),listed.size=bC.size→Region.ready .any bC listed=[]→b9 c.P fs K (ay (jy gs σ listed) A)→cj c A a w→Q .normal a w:=by
  intro listed A a w hsz hr hwp hs
  have hnone:eV σ listed=[]:=by
   have all:∀ n,∀ i,i<n→i<bC.size→listed.getD i true=true:=by
    intro n
    induction n with
    |zero=>intro i hi;omega
    |succ n ih =>
     intro i hi his
     cases hb:listed.getD i true with
     |true=>rfl
     |false =>
      exfalso
      have ho:bC[i]?=some bC[i]:=Array.getElem?_eq_getElem his
      have:i∈Region.ready .any bC listed:=mem_ready.2 ⟨hb,bC[i],ho,fun e he hbd=>by
       have hlt:=hd.m5 i bC[i] (by simp) e.on (onOf_mem _ e he hbd)
       have h1:=ih e.on (by omega) (by omega)
       have h2:e.on<listed.size:=by omega
       simpa[Array.getD_eq_getD_getElem?,h2] using h1⟩
      rw[hr] at this
      cases this
   simp only[eV]
   refine List.filter_eq_nil_iff.2 fun i hi =>?_
   have:=all (i+1) i (by omega) (by rw[←hgl];exact hd.lt i hi)
   simp only[this,Bool.not_true,Bool.false_eq_true,not_false_eq_true]
  simp only[jy,hnone,List.map_nil,ay] at hwp
  cases hwp with
  |done hk=>exact hQ A a w hk hs
 intro fuel
 induction fuel with
 |zero =>
  intro listed A a w hsz hcl hcnt hinv hwp hs
  have hnone:eV σ listed=[]:=List.length_eq_zero_iff.1 (by omega)
  have hr:Region.ready .any bC listed=[]:=by
   refine List.eq_nil_iff_forall_not_mem.2 fun i hi =>?_
   obtain ⟨h1,o,ho,_⟩:=mem_ready.1 hi
   have:i∈eV σ listed:=by
    simp only[eV,List.mem_filter,h1,Bool.not_false,and_true]
    exact hd.all i (by rw[hgl];exact (Array.getElem?_eq_some_iff.1 ho).1)
   rw[hnone] at this
   cases this
  exact ⟨hr,last listed A a w hsz hr hwp hs⟩
 |succ fuel ih =>
  intro listed A a w hsz hcl hcnt hinv hwp hs
  refine ⟨fun hr=>last listed A a w hsz hr hwp hs,fun i hi =>?_⟩
  obtain ⟨hun,o,ho,hall⟩:=mem_ready.1 hi
  have hin:i<bC.size:=(Array.getElem?_eq_some_iff.1 ho).1
  obtain ⟨s1,s2,hσ,e1,e2⟩:=MH hd.tK (hd.all i (by omega)) (by omega) hun
  have hol:bC.toList[i]?=some o:=by simpa using ho
  obtain ⟨g,hgi,hcg⟩:=hat i o hol
  have hon:∀ k∈cZ o,listed.getD k false=true:=fun k hk=>by
   obtain ⟨e,h1,h2,h3⟩:=of_onOf o k hk
   exact h3▸hall e h1 h2
  have hgd:gs.getD i default=g:=by simp[List.getD_eq_getElem?_getD,hgi]
  have hwp':b9 c.P fs K (ay (g::jy gs σ (listed.setIfInBounds i true)) A):=by
   simp only[jy,e1,List.map_append,List.map_cons,hgd] at hwp
   simp only[jy,e2,List.map_append]
   refine b9.ph hinv (fun j hj =>?_) hwp
   obtain ⟨k,hk,rfl⟩:=List.mem_map.1 hj
   obtain ⟨hk1,hk2⟩:=List.mem_filter.1 hk
   have:=hd.qL (fun k=>listed.getD k false=true) hcl s1 i s2 o hσ hol hon k hk1 (by
    have hks:k<listed.size:=by
     have:=hd.lt k (by rw[hσ];exact List.mem_append_left _ hk1)
     omega
    simp[Array.getD_eq_getD_getElem?,hks] at hk2 ⊢
    exact hk2)
   rw[hgd] at this
   refine ⟨this,(hd.ok _ ?_).2⟩
   have hkl:=hd.lt k (by rw[hσ];exact List.mem_append_left _ hk1)
   rw[List.getD_eq_getElem?_getD,List.getElem?_eq_getElem hkl]
   exact List.getElem_mem _
  unfold wpOpIn
  rw[ho]
  refine xk hcg hinv (hd.ok g (List.mem_of_getElem? hgi)) hwp' hs fun B a' w' hw hiB hs'=>ih _ B a' w' (by simpa using hsz) ?_ ?_ hiB hw hs'
  ·intro m om hom hm k hk
   by_cases hmi:m=i
   ·subst hmi
    rw[hol,Option.some.injEq] at hom
    subst hom
    exact getD_set_true (hon k hk)
   ·rw[getD_set_ne false (Ne.symm hmi)] at hm
    exact getD_set_true (hcl m om hom hm k hk)
  ·have:(eV σ listed).length=(eV σ (listed.setIfInBounds i true)).length+1:=by
    rw[e1,e2];simp;omega
   omega
def lT(σ:List Nat)(gs:List aB):List aB:=σ.map fun i=>gs.getD i default
theorem J.akY{Q:Exit→ae→Prop}{A:ae}{on:List (List Nat)}{gs:List aB}(hs:List FuncId)(L:ep)(cl σ:List Nat)(hd:tV hs L on gs cl σ=true)(hi:en L A)(h:∀ K:ae→Prop,(∀ B,Q .normal B→K B)→b9 c.P hs K (ay (lT σ gs) A)):J c (.bT (some on) gs) Q A:=by
 intro code hc a w hs'
 cases code <;>simp only[eX] at hc <;>try (first | (cases hc;done) | ((repeat' split at hc) <;>cases hc;done))
 rename_i id bC draw
 split at hc
 ·rename_i gs' hgs
  split at hc
  case isFalse=>cases hc
  rename_i hok
  simp only[Option.some.injEq,aN.bT.injEq] at hc
  obtain ⟨he,rfl⟩:=hc
  cases draw with
  |false=>cases he
  |true =>
   simp only[cond_true,Option.some.injEq] at he
   subst he
   simp only[Bool.not_true,Bool.false_or] at hok
   have hp:=aky (ka hgs).1 hd
   refine wpIn_region_any hok (PU (K:=Q .normal) (fun B a w hk hs=>⟨B,hk,hs⟩) hgs hp bC.size (Array.replicate bC.size false) A a _ (by simp) ?_ ?_ hi ?_ ?_)
   ·intro i o _ h
    exfalso
    simp only[Array.getD_eq_getD_getElem?,Array.getElem?_replicate] at h
    split at h <;>simp at h
   ·refine Nat.le_trans (List.length_filter_le _ _) ?_
    rw[hp.len,(ka hgs).1,Array.length_toList];exact Nat.le_refl _
   ·have hall:eV σ (Array.replicate bC.size false)=σ:=by
     simp only[eV]
     refine List.filter_eq_self.2 fun i hi =>?_
     have h1:=hp.lt i hi
     rw[(ka hgs).1,Array.length_toList] at h1
     simp[h1]
    simp only[jy,hall]
    exact h _ fun _ hb=>hb
   ·obtain ⟨D,E,hs'⟩:=hs'
    exact ⟨D,E,hs'.grow (w' := { w with drawn:=w.drawn+1 }) ⟨rfl,rfl,rfl,Nat.le_refl _,fun _ _=>rfl⟩ (fun _ _ h=>h) (fun _ _ h _=>h) (fun b o h=>hs'.de b o h)⟩
 ·cases hc
def nC(ts:List (Nat×I)):ep→Prop
 | []=>True
 |(s,ns)::L=>(bO ts s).only (fun n=>ns.contains n)=true∧nC ts L
theorem en.of{ts:List (Nat×I)}{os:List (Nat×ah)}{L:ep}(h:nC ts L):en L (ar ts os):=by
 intro s ns hn
 simp only[ar]
 induction L with
 |nil=>cases hn
 |cons q L ih =>
  obtain ⟨s',ns'⟩:=q
  simp only[nC] at h
  simp only[iY,List.find?_cons] at hn
  split at hn
  ·rename_i e
   simp only[Option.map_some,Option.some.injEq] at hn
   simp only[beq_iff_eq] at e
   subst e hn
   exact h.1
  ·exact ih h.2 hn
end
end Go.Abs
namespace Go.Abs
open Go Go.RowKit
open Enc (enc)
section
variable {α:Type} [Enc α] {P:Program} {Y:Value→List I→List (Nat×ah)→cV→Prop} {K:ae→Prop} {A:ae} {rest:List aB} {esz bytes:Nat}
theorem qc{n lo k:Nat}{xs:List α}(ho:A.o n=some (.box (.agg (xs.map enc))))(h:lo+k≤xs.length):ev A esz (.view n [] esz lo k)=some (((xs.drop lo).take k).map enc):=by
 have h1:cv A (.ptr n [])=some (.agg (xs.map enc)):=by simp only[cv,ho];rfl
 simp only[ev,h1,List.length_map]
 rw[if_pos ⟨h,trivial⟩,List.map_take,List.map_drop]
theorem Nd{xs ys:List α}(h:xs.length=ys.length):I.cR (xs.map enc)=I.cR (ys.map enc):=by
 rw[rC,rC,h]
theorem u5{d:Option Nat}{e:Nat}(z:I)(hs:Enc.sz α=esz){n l:Nat}{xs ys:List α}(hy:ys≠[])(ho:A.o n=some (.box (.agg (xs.map enc))))(hr:l+ys.length≤xs.length) :
  gq A d e esz bytes z (enc ys) rest (.view n [] esz 0 l)=ay rest ((A.aM n (.box (.agg ((xs.take l++(ys++xs.drop (l+ys.length))).map enc)))).aO d (.view n [] esz 0 (l+ys.length))):=by
 have h1:=qc (A:=A) (esz:=esz) (lo:=0) (k:=l) ho (by omega)
 have h2:(I.agg (xs.map (enc (α:=α)))).at []=some (.agg (xs.map enc)):=rfl
 have h3:I.cR (ys.map (enc (α:=α)))=I.cR (((xs.map (enc (α:=α))).drop l).take ys.length):=by
  rw[←List.map_drop,←List.map_take]
  exact Nd (by rw[List.length_take,List.length_drop];omega)
 simp only[gq,h1,qb A esz ys hs,ff]
 rw[if_neg (by simpa using hy)]
 simp only[ho,h2,List.length_map,Nat.zero_add]
 rw[if_pos hr,if_pos ⟨rfl,by rw[List.length_map,Nat.zero_add];exact h3⟩]
 simp only[iH,gZ,List.length_map,List.map_append,List.map_take,List.map_drop]
end
theorem alz{n:Nat}{p:List Nat}{sz k total i:Nat}(h:i≤k)(hk:k≤total):∃ y,hE n p sz 0 k total (some (.int .i64 i)) none none=some y:=by
 simp only[hE,ib]
 rw[if_pos ⟨by omega,by omega,by omega⟩]
 split <;>exact ⟨_,rfl⟩
theorem tu(k:Nat):bO [] k=.c9:=rfl
def gX(L:List Nat):List (Nat×I)→List (Nat×I)
 | []=>[]
 |(s,v)::ts=>if L.contains s=true then (s,v)::gX L ts else gX L ts
theorem aif(L:List Nat):gX L []=[]:=rfl
theorem aie(L:List Nat)(s:Nat)(v:I)(ts:List (Nat×I)):gX L ((s,v)::ts)=if L.contains s=true then (s,v)::gX L ts else gX L ts:=rfl
theorem JT(L:List Nat)(t:Nat):∀ ts,bO (gX L ts) t=.c9∨bO (gX L ts) t=bO ts t
 | []=>.inl rfl
 |(s,v)::ts=>by
  simp only[gX]
  have ih:=JT L t ts
  by_cases hs:L.contains s=true
  ·rw[if_pos hs]
   simp only[bO]
   split
   ·exact .inr rfl
   ·exact ih
  ·rw[if_neg hs]
   simp only[bO]
   split
   ·rename_i e
    subst e
    left
    have:∀ ts,bO (gX L ts) t=.c9:=by
     intro ts
     induction ts with
     |nil=>rfl
     |cons q ts ih2 =>
      obtain ⟨s',v'⟩:=q
      simp only[gX]
      split
      ·rename_i h'
       simp only[bO]
       have:t≠s':=fun e=>hs (e▸h')
       rw[if_neg this];exact ih2
      ·exact ih2
    exact this ts
   ·exact ih
theorem J.fM(L:List Nat){c:cM}{x:aN}{Q:Exit→ae→Prop}{ts:List (Nat×I)}{os:List (Nat×ah)}(h:J c x Q (ar (gX L ts) os)):J c x Q (ar ts os):=by
 refine J.sub ?_ h
 rintro cc a w ⟨D,E,hs⟩
 refine ⟨D,E,hs.sz,hs.eM,fun t =>?_,hs.dO,hs.c6,hs.de,hs.bX,hs.cQ,hs.dQ,hs.eU,hs.cK,hs.eW,hs.fE⟩
 simp only[ar]
 rcases JT L t ts with e | e
 ·rw[e];simp[aW]
 ·rw[e];exact hs.dY t
theorem xN:(∀ L,gX L []=[])∧(∀ L s v ts,gX L ((s,v)::ts)=if L.contains s=true then (s,v)::gX L ts else gX L ts)∧(∀ (a:Nat) l b,(a::l).contains b=(b==a||l.contains b))∧(∀ b:Nat,([]:List Nat).contains b=false)∧(∀ b,(false||b)=b)∧(∀ b,(true||b)=true)∧(∀ b,(b||true)=true)∧(∀ b,(b||false)=b)∧((false=true)=False) :=
 ⟨aif,aie,fun _ _ _=>List.contains_cons,fun _=>rfl,fun _=>rfl,fun _=>rfl,fun b=>by cases b <;>rfl,fun b=>by cases b <;>rfl,by simp⟩
end Go.Abs
namespace Go.Abs
open Go Go.RowKit
open Enc (enc)
def xV:Option ah→Option (List I×List I)
 |some (.cu ks vs)=>some (ks,vs)
 |_=>none
noncomputable def x2(A:ae)(n:Nat)(rest:List aB):Option (List I×List I)→cL
 |some (ks,vs)=>ay rest (A.aM n (.cu ks vs))
 |none=>.fail
noncomputable def x1(A:ae)(n:Nat)(ty:cN)(k v:I)(rest:List aB):Option ah→cL
 |some (.cu ks vs)=>x2 A n rest (gj ty k v ks vs)
 |_=>.fail
noncomputable def x0(A:ae)(ty:cN)(k v:I)(rest:List aB):I→cL
 | .mref n=>x1 A n ty k v rest (A.o n)
 |_=>.fail
noncomputable def xZ(A:ae)(d:Nat)(rest:List aB):Option ah→cL
 |none=>ay rest ((A.aM d (.cu [] [])).put d (.mref d))
 |some _=>.fail
open Classical in
noncomputable def tG(A:ae)(d bytes:Nat)(z:I)(rest:List aB):I→cL
 | .int _ n=>if 0≤n∧n.toNat*bytes≤281474976710656∧n.toNat≤maxLen then ay rest ((A.aM d (.box (.agg (List.replicate n.toNat z)))).put d (.view d [] 1 0 n.toNat)) else .fail
 |_=>.fail
noncomputable def tF(A:ae)(d bytes:Nat)(z n:I)(rest:List aB):Option ah→cL
 |none=>tG A d bytes z rest n
 |some _=>.fail
noncomputable def yJ(A:ae)(d:Nat)(rest:List aB):I→cL
 | .cT ks vs=>ay rest ((A.aM d (.it ks vs (List.range ks.length) none)).put d (.dx d))
 |_=>.fail
noncomputable def um(A:ae)(d:Nat)(x:I)(rest:List aB):Option ah→cL
 |none=>yJ A d rest x
 |some _=>.fail
def vN:Option ah→Option I
 |some (.it ks vs _ cur)=>py ks vs cur
 |_=>none
def vM(A:ae):I→Option I
 | .dx n=>vN (A.o n)
 |_=>none
open Classical in
noncomputable def pV(A:ae)(d:Option Nat)(n:Nat)(rest:List aB):Option ah→cL
 |some (.it ks vs left _)=>if left=[] then ay rest (A.aO d (.tuple [.bool false])) else
   .any (fun i=>i∈left) fun i=>match ks[i]?,vs[i]? with
    |some kk,some x=>ay rest ((A.aM n (.it ks vs (left.filter (· != i)) (some i))).aO d (.tuple [.bool true,kk,x]))
    |_,_=>.fail
 |_=>.fail
noncomputable def x6(A:ae)(d:Option Nat)(rest:List aB):I→cL
 | .dx n=>pV A d n rest (A.o n)
 |_=>.fail
section
variable (d:Option Nat) (rest:List aB) (A:ae)
theorem ajJ(x:aK):bS A d (.nilC x) rest=cP (mG (ab A x)) (dh d rest A):=rfl
theorem ajN(neg:Bool)(x y:aK):bS A d (.ptrE neg x y) rest=cP (mK neg (iX (ab A x)) (iX (ab A y))) (dh d rest A):=rfl
theorem ajD(ty:cN)(z:I)(ok:Bool)(m k:aK):bS A d (.lk ty z ok m k) rest=cP (qR ty z ok (ab A k) (gw A (ab A m))) (dh d rest A):=rfl
theorem aiL(n:Nat):gw A (.mref n)=xV (A.o n):=by
 simp only[gw];cases A.o n with
 |none=>rfl
 |some y=>cases y <;>rfl
theorem ajH(ty:cN)(m k v:aK):bS A none (.gK ty m k v) rest=x0 A ty (ab A k) (ab A v) rest (ab A m):=by
 simp only[bS,bn]
 cases ab A m <;>rfl
theorem ajF(d:Nat):bS A (some d) .jP rest=xZ A d rest (A.o d):=by
 simp only[bS,bn];cases A.o d <;>rfl
theorem ajG(d e bytes:Nat)(z:I)(n:aK):bS A (some d) (.jQ e bytes z n) rest=tF A d bytes z (ab A n) rest (A.o d):=by
 simp only[bS,bn]
 cases A.o d with
 |some _=>rfl
 |none=>simp only[tF];cases ab A n <;>rfl
theorem ajO(d:Nat)(x:aK):bS A (some d) (.kq x) rest=um A d (ab A x) rest (A.o d):=by
 simp only[bS,bn]
 cases A.o d with
 |some _=>rfl
 |none=>simp only[um];cases ab A x <;>rfl
theorem ajs(x:aK):bS A d (.ent x) rest=cP (vM A (ab A x)) (dh d rest A):=by
 simp only[bS,bn,bB]
 cases ab A x <;>rfl
theorem ajL(x:aK):bS A d (.jx x) rest=x6 A d rest (ab A x):=by
 simp only[bS,bn]
 cases ab A x <;>rfl
end
theorem ez :
  (∀ d rest A x,bS A d (.nilC x) rest=cP (mG (ab A x)) (dh d rest A))∧(∀ n p,mG (.ptr n p)=some (.ptr n p))∧(∀ x,mG (.ref x)=some (.ref x)) ∧
  (∀ d rest A neg x y,bS A d (.ptrE neg x y) rest=cP (mK neg (iX (ab A x)) (iX (ab A y))) (dh d rest A))∧(iX .nilp=some true)∧(∀ n p,iX (.ptr n p)=some false)∧(∀ x,iX (.ref x)=some false) ∧
  (mK false (some true) (some true)=some (.bool true))∧(mK false (some false) (some true)=some (.bool false))∧(mK true (some true) (some true)=some (.bool false))∧(mK true (some false) (some true)=some (.bool true)) ∧
  (∀ d rest A ty z ok m k,bS A d (.lk ty z ok m k) rest=cP (qR ty z ok (ab A k) (gw A (ab A m))) (dh d rest A))∧(∀ A n,gw A (.mref n)=xV (A.o n))∧(∀ A ks vs,gw A (.cT ks vs)=some (ks,vs))∧(∀ ks vs,xV (some (.cu ks vs))=some (ks,vs)) ∧
  (∀ ty z ok k ks vs,qR ty z ok k (some (ks,vs))=qS ok (gv ty z k ks vs))∧(∀ v b,qS false (some (v,b))=some v)∧(∀ v b,qS true (some (v,b))=some (.tuple [v,.bool b])) ∧
  (∀ rest A ty m k v,bS A none (.gK ty m k v) rest=x0 A ty (ab A k) (ab A v) rest (ab A m))∧(∀ A ty k v rest n,x0 A ty k v rest (.mref n)=x1 A n ty k v rest (A.o n))∧(∀ A n ty k v rest ks vs,x1 A n ty k v rest (some (.cu ks vs))=x2 A n rest (gj ty k v ks vs)) ∧
  (∀ A n rest ks vs,x2 A n rest (some (ks,vs))=ay rest (A.aM n (.cu ks vs))) ∧
  (∀ rest A d,bS A (some d) .jP rest=xZ A d rest (A.o d))∧(∀ A d rest,xZ A d rest none=ay rest ((A.aM d (.cu [] [])).put d (.mref d))) ∧
  (∀ rest A d e bytes z n,bS A (some d) (.jQ e bytes z n) rest=tF A d bytes z (ab A n) rest (A.o d))∧(∀ A d bytes z n rest,tF A d bytes z n rest none=tG A d bytes z rest n) ∧
  (∀ rest A d x,bS A (some d) (.kq x) rest=um A d (ab A x) rest (A.o d))∧(∀ A d x rest,um A d x rest none=yJ A d rest x)∧(∀ A d rest ks vs,yJ A d rest (.cT ks vs)=ay rest ((A.aM d (.it ks vs (List.range ks.length) none)).put d (.dx d))) ∧
  (∀ d rest A x,bS A d (.ent x) rest=cP (vM A (ab A x)) (dh d rest A))∧(∀ A n,vM A (.dx n)=vN (A.o n))∧(∀ ks vs l cur,vN (some (.it ks vs l cur))=py ks vs cur) ∧
  (∀ d rest A x,bS A d (.jx x) rest=x6 A d rest (ab A x))∧(∀ A d rest n,x6 A d rest (.dx n)=pV A d n rest (A.o n)) :=
 ⟨ajJ,fun _ _=>rfl,fun _=>rfl,ajN,rfl,fun _ _=>rfl,fun _=>rfl,rfl,rfl,rfl,rfl,ajD,aiL,fun _ _ _=>rfl,fun _ _=>rfl,fun _ _ _ _ _ _=>rfl,fun _ _=>rfl,fun _ _=>rfl,
  fun rest A ty m k v=>ajH rest A ty m k v,fun _ _ _ _ _ _=>rfl,fun _ _ _ _ _ _ _ _=>rfl,fun _ _ _ _ _=>rfl,fun rest A d=>ajF rest A d,fun _ _ _=>rfl,fun rest A d e bytes z n=>ajG rest A d e bytes z n,fun _ _ _ _ _ _=>rfl,
  fun rest A d x=>ajO rest A d x,fun _ _ _ _=>rfl,fun _ _ _ _ _=>rfl,ajs,fun _ _=>rfl,fun _ _ _ _=>rfl,ajL,fun _ _ _ _=>rfl⟩
theorem cD:(∀ n p z lo k,b5 none (.view n p z lo k)=true)∧(∀ n,b5 none (.mref n)=true)∧(∀ n p,b5 none (.ptr n p)=true)∧(∀ x,b5 none (.ref x)=true)∧b5 none .nilp=true∧b5 none .dj=true∧b5 none (.raw (.map none))=true∧(∀ ks vs,b5 none (.cT ks vs)=true)∧(∀ {α:Type} [Enc α] (l:List α),b5 none (enc l)=true) :=
 ⟨fun _ _ _ _ _=>rfl,fun _=>rfl,fun _ _=>rfl,fun _=>rfl,rfl,rfl,rfl,fun _ _=>rfl,fun l=>by simp[kI,nj]⟩
theorem JZ{A:ae}{d bytes:Nat}{z:I}{rest:List aB}{n:Nat}(h1:n*bytes≤281474976710656)(h2:n≤maxLen):tG A d bytes z rest (.int .i64 n)=ay rest ((A.aM d (.box (.agg (List.replicate n z)))).put d (.view d [] 1 0 n)):=by
 simp only[tG,Int.toNat_natCast]
 rw[if_pos ⟨Int.natCast_nonneg n,h1,h2⟩]
section
variable {α:Type} [Enc α] [DecidableEq α] {ty:cN}
theorem vX(av:∀ x y:α,ca ty (enc x) (enc y)=some (decide (x=y)))(k:α):∀ (ks:List α) (i:Nat),eY ty (enc k) (ks.map enc) i=some ((ks.findIdx? fun x=>decide (k=x)).map (· + i))
 | [],i=>rfl
 |x::ks,i=>by
  simp only[List.map_cons,eY,av,List.findIdx?_cons]
  by_cases h:k=x
  ·simp[h]
  ·simp only[h,decide_false,Bool.false_eq_true,if_false]
   rw[vX av k ks (i+1)]
   cases ks.findIdx? fun x=>decide (k=x) with
   |none=>rfl
   |some j=>simp;omega
theorem xR(av:∀ x y:α,ca ty (enc x) (enc y)=some (decide (x=y)))(z:I)(k:α)(ks:List α)(vs:List I) :
  gv ty z (enc k) (ks.map enc) vs=match ks.findIdx? fun x=>decide (k=x) with
   |some i=>(vs[i]?).map fun v=>(v,true)
   |none=>some (z,false):=by
 simp only[gv,av,Option.isSome_some,if_true,vX av]
 cases ks.findIdx? fun x=>decide (k=x) <;>rfl
theorem J0(av:∀ x y:α,ca ty (enc x) (enc y)=some (decide (x=y)))(k:α)(v:I)(hv:v.cq=true)(ks:List α)(vs:List I) :
  gj ty (enc k) v (ks.map enc) vs=match ks.findIdx? fun x=>decide (k=x) with
   |some i=>some (ks.map enc,vs.set i v)
   |none=>some ((ks++[k]).map enc,vs++[v]):=by
 simp only[gj,av,Option.isSome_some,hv,JC (dV k),and_self,if_true,vX av]
 cases ks.findIdx? fun x=>decide (k=x) with
 |none=>simp
 |some i=>rfl
omit [Enc α] in
theorem Du{k:α}{ks:List α} : (ks.findIdx? fun x=>decide (k=x)).isSome=decide (k∈ks):=by
 induction ks with
 |nil=>rfl
 |cons x ks ih =>
  simp only[List.findIdx?_cons,List.mem_cons]
  by_cases h:k=x
  ·simp[h]
  ·simp only[h,decide_false,Bool.false_eq_true,if_false,Option.isSome_map,ih,false_or]
theorem aiE(av:∀ x y:α,ca ty (enc x) (enc y)=some (decide (x=y)))(k:α)(ks:List α):gv ty (.bool false) (enc k) (ks.map enc) (List.replicate ks.length (.bool true))=some (.bool (decide (k∈ks)),decide (k∈ks)):=by
 rw[xR av,←Du]
 cases h:ks.findIdx? fun x=>decide (k=x) with
 |none=>rfl
 |some i =>
  have:=(List.findIdx?_eq_some_iff_getElem.1 h).1
  simp[this]
def m0{α:Type}[DecidableEq α](ks:List α)(k:α):List α:=if k∈ks then ks else ks++[k]
omit [Enc α] in
theorem aiP{ks:List α}{k x:α} : x∈m0 ks k↔x=k∨x∈ks:=by
 unfold m0
 split
 ·rename_i h
  exact ⟨.inr,fun h2=>h2.elim (fun e=>e▸h) id⟩
 ·simp[or_comm]
theorem ai0(av:∀ x y:α,ca ty (enc x) (enc y)=some (decide (x=y)))(k:α)(ks:List α):gj ty (enc k) (.bool true) (ks.map enc) (List.replicate ks.length (.bool true))=some ((m0 ks k).map enc,List.replicate (m0 ks k).length (.bool true)):=by
 rw[J0 av k _ rfl]
 have hm:=Du (k:=k) (ks:=ks)
 cases h:ks.findIdx? fun x=>decide (k=x) with
 |none =>
  rw[h] at hm
  have:k∉ks:=by simpa using hm.symm
  simp only[m0,if_neg this]
  congr 2
  rw[List.length_append,List.length_singleton,List.replicate_succ']
 |some i =>
  rw[h] at hm
  have:k∈ks:=by simpa using hm.symm
  simp only[m0,if_pos this]
  congr 2
  have:=(List.findIdx?_eq_some_iff_getElem.1 h).1
  exact List.ext_getElem (by simp) fun j h1 h2=>by
   simp only[List.getElem_set,List.getElem_replicate];split <;>rfl
end
section
variable {α:Type} [Enc α]
theorem Af{xs:List α}{i:Nat}(d:α)(h:i<xs.length):jr i [] (some (xs.map enc))=some (enc (xs.getD i d)):=by
 simp[jr,oc,h,I.at,List.getD_eq_getElem?_getD]
theorem Nv{A:ae}{n i:Nat}{xs:List α}(v u:α){rest:List aB}(hA:Enc.fV α=false)(h:i<xs.length):dm A none n [i] (.agg (xs.map enc)) (enc v) rest (some (enc u))=ay rest (A.aM n (.box (.agg ((xs.set i v).map enc)))):=by
 rw[ej (dG v) (by rw[kI,hA];rfl) ((eD v).trans (eD u).symm)]
 have h2:(xs.map (enc (α:=α)))[i]?=some (enc (xs[i])):=by simp[h]
 simp only[I.dF,h2,List.map_set]
end
theorem Nw{A:ae}{n i:Nat}{xs:List Bool}(h:i<xs.length)(v u:Bool)(rest:List aB):dm A none n [i] (.agg (xs.map enc)) (.bool v) rest (some (.bool u))=ay rest (A.aM n (.box (.agg ((xs.set i v).map enc)))):=Nv v u rfl h
theorem nV{A:ae}{n i:Nat}{xs:List Int}(h:i<xs.length)(v u:Int)(rest:List aB):dm A none n [i] (.agg (xs.map enc)) (.int .i64 v) rest (some (.int .i64 u))=ay rest (A.aM n (.box (.agg ((xs.set i v).map enc)))):=Nv v u rfl h
theorem sg{xs:List Bool}{i:Nat}(h:i<xs.length):jr i [] (some (xs.map enc))=some (.bool (xs.getD i false)):=Af false h
theorem gR{xs:List Int}{i:Nat}(h:i<xs.length):jr i [] (some (xs.map enc))=some (.int .i64 (xs.getD i 0)):=Af 0 h
theorem ov{m sz lo l i:Nat}{fs:List I}(h:i<l):ju m [] sz lo l sz (i:Int) (some fs)=some (.ptr m [lo+i]):=by rw[xL h];rfl
theorem YD{α:Type}[Enc α]{A:ae}{m n sz k:Nat}{xs:List α}(ho:A.o n=some (.box (.agg (xs.map enc))))(hs:Enc.sz α=sz)(hk:k=xs.length):dv A (m+1) (.view n [] sz 0 k)=some (enc xs):=by
 subst hk hs
 have h1:cv A (.ptr n [])=some (.agg (xs.map enc)):=by simp only[cv,ho];rfl
 simp only[dv,I.bt,Bool.false_eq_true,if_false,h1]
 have h2:((xs.map (enc (α:=α))).drop 0).take xs.length=xs.map enc:=by rw[List.drop_zero,List.take_of_length_le (by simp)]
 rw[h2,if_pos (jI xs),ga]
theorem kE:(∀ {α:Type} [Enc α] (x:α),(enc x).bt=true)∧(∀ n p z lo k,(I.view n p z lo k).bt=false)∧(∀ n,(I.mref n).bt=false)∧(∀ n p,(I.ptr n p).bt=false)∧(∀ n k,(I.own n k).bt=false) :=
 ⟨@dV,fun _ _ _ _ _=>rfl,fun _=>rfl,fun _ _=>rfl,fun _ _=>rfl⟩
end Go.Abs
namespace Go.Abs
open Go Go.RowKit
open Enc (enc)
theorem az.PM{A:ae}{d n T z:Nat}(hd:A.t d=.nils z)(hn:A.o n=none)(hlt:n<1000000):az A ((A.aM n (.cU T [])).put d (.own n 0)):=by
 rintro c a w ⟨D,E,h⟩
 have av:E n=none:=by have:=h.bX n;rw[hn] at this;exact this
 have hl:dM w D E w D (fun m=>if m=n then some (.rw none 0) else E m):=by
  have eh:∀ {m:Nat} {e:bU},E m=some e→(if m=n then some (.rw none 0) else E m)=some e:=fun {m e} he=>by
   have:m≠n:=fun e=>by rw[e,av] at he;cases he
   rw[if_neg this];exact he
  refine ⟨fun _ _ h=>h,fun _ _ _ _ h=>h,fun m b aQ he=>eh he,fun m aE l he =>?_,fun m b he=>eh he,fun m b he=>eh he,fun _ _ _ _ h=>h⟩
  ·have:m≠n:=fun e=>by rw[e,av] at he;cases he
   exact ⟨aE,l,by simp only[if_neg this];exact he,Nat.le_refl _,fun _=>rfl⟩
 refine ⟨D,fun m=>if m=n then some (.rw none 0) else E m,h.sz,h.eM,fun t =>?_,h.dO,h.c6,h.de,fun m =>?_,fun m m' e e' b h1 h2 h3 h4 =>?_,fun m e hm =>?_,h.eU,h.cK,h.eW,h.fE⟩
 ·simp only[ae.put,ae.aM]
  by_cases ht:t=d
  ·subst ht
   simp only[if_true]
   have hv:=h.dY t
   rw[hd] at hv
   obtain ⟨cs,q1,q2⟩:=hv
   simp only[af] at q2
   subst q2
   refine ⟨[.slice none 0 0],by simpa[bK,I.isAgg] using q1,?_⟩
   simp only[af,if_true]
   exact ⟨none,0,rfl,Nat.le_refl _,⟨_,_,_,rfl⟩,fun _=>trivial⟩
  ·simp only[if_neg ht]
   exact aW.bL hl (h.dY t)
 ·simp only[ae.put,ae.aM]
  by_cases hm:m=n
  ·subst hm
   simp only[if_true,dc]
   exact ⟨none,by simp,by simp,trivial⟩
  ·simp only[if_neg hm]
   exact (h.bX m).bL hl (by simp only[if_neg hm]) fun _ _ _ _=>⟨rfl,fun _ ho=>ho⟩
 ·by_cases hm:m=n <;>by_cases hm':m'=n
  ·rw[hm,hm']
  ·simp only[if_pos hm,Option.some.injEq] at h1;subst h1;simp[bU.aE] at h3
  ·simp only[if_pos hm',Option.some.injEq] at h2;subst h2;simp[bU.aE] at h4
  ·simp only[if_neg hm] at h1;simp only[if_neg hm'] at h2;exact h.cQ m m' e e' b h1 h2 h3 h4
 ·have hmn:m≠n:=fun e=>by rw[e,h.kd (.inr hlt)] at hm;cases hm
  simp only[if_neg hmn]
  exact h.dQ m e hm
theorem az.zV{ts:List (Nat×I)}{os:List (Nat×ah)}(d n T z:Nat)(hd:bO ts d=.nils z)(hn:ak os n=none){B:ae}(h:az (ar ((d,.own n 0)::ts) ((n,.cU T [])::os)) B)(hlt:n<1000000:=by decide):az (ar ts os) B :=
 ((az.PM (A:=ar ts os) (T:=T) hd hn hlt).trans (by rw[lQ,tB];exact az.refl _)).trans h
theorem az.PN{A:ae}{m n T z:Nat}{p:List Nat}{b:I}(hm:A.o m=some (.box b))(hp:b.at p=some (.nils z))(hn:A.o n=none)(hlt:n<1000000):az A ((A.aM n (.cU T [])).aM m (.box (b.dF p (.own n 0)))):=by
 rintro c a w ⟨D,E,h⟩
 have av:E n=none:=by have:=h.bX n;rw[hn] at this;exact this
 have hmn:m≠n:=fun e=>by rw[e,hn] at hm;cases hm
 have hl:dM w D E w D (fun m=>if m=n then some (.rw none 0) else E m):=by
  have eh:∀ {m:Nat} {e:bU},E m=some e→(if m=n then some (.rw none 0) else E m)=some e:=fun {m e} he=>by
   have:m≠n:=fun e=>by rw[e,av] at he;cases he
   rw[if_neg this];exact he
  refine ⟨fun _ _ h=>h,fun _ _ _ _ h=>h,fun m b aQ he=>eh he,fun m aE l he =>?_,fun m b he=>eh he,fun m b he=>eh he,fun _ _ _ _ h=>h⟩
  ·have:m≠n:=fun e=>by rw[e,av] at he;cases he
   exact ⟨aE,l,by simp only[if_neg this];exact he,Nat.le_refl _,fun _=>rfl⟩
 refine ⟨D,fun m=>if m=n then some (.rw none 0) else E m,h.sz,h.eM,fun t=>aW.bL hl (h.dY t),h.dO,h.c6,h.de,fun k =>?_,fun m m' e e' b h1 h2 h3 h4 =>?_,fun m e hm =>?_,h.eU,h.cK,h.eW,h.fE⟩
 ·simp only[ae.aM]
  by_cases hk:k=m
  ·subst hk
   have ho:=h.bX k
   rw[hm] at ho
   obtain ⟨b',cs,T',h1,h2,h3,h4,h5⟩:=ho
   obtain ⟨q1,q2⟩:=yD (y:=.own n 0) (af.bL hl _ _ h4) hp (fun ds hd=>by
    simp only[af] at hd
    subst hd
    simp only[af,if_true]
    exact ⟨none,0,rfl,Nat.le_refl _,⟨_,_,_,rfl⟩,fun _=>trivial⟩) rfl
   simp only[if_true,dc]
   exact ⟨b',cs,T',by rw[q2];simp only[if_neg hmn];exact h1,h2,h3,q1,h5⟩
  ·simp only[if_neg hk]
   by_cases hkn:k=n
   ·subst hkn
    simp only[if_true,dc]
    exact ⟨none,by simp,by simp,trivial⟩
   ·simp only[if_neg hkn]
    exact (h.bX k).bL hl (by simp only[if_neg hkn]) fun _ _ _ _=>⟨rfl,fun _ ho=>ho⟩
 ·by_cases hm:m=n <;>by_cases hm':m'=n
  ·rw[hm,hm']
  ·simp only[if_pos hm,Option.some.injEq] at h1;subst h1;simp[bU.aE] at h3
  ·simp only[if_pos hm',Option.some.injEq] at h2;subst h2;simp[bU.aE] at h4
  ·simp only[if_neg hm] at h1;simp only[if_neg hm'] at h2;exact h.cQ m m' e e' b h1 h2 h3 h4
 ·have hmn:m≠n:=fun e=>by rw[e,h.kd (.inr hlt)] at hm;cases hm
  simp only[if_neg hmn]
  exact h.dQ m e hm
theorem az.PO{ts:List (Nat×I)}{os:List (Nat×ah)}(m n T z:Nat)(p:List Nat)(b:I)(hm:ak os m=some (.box b))(hp:b.at p=some (.nils z))(hn:ak os n=none){B:ae}(h:az (ar ts ((m,.box (b.dF p (.own n 0)))::(n,.cU T [])::os)) B)(hlt:n<1000000:=by decide):az (ar ts os) B :=
 ((az.PN (A:=ar ts os) (T:=T) hm hp hn hlt).trans (by rw[lQ,lQ];exact az.refl _)).trans h
theorem u4{A:ae}{d:Option Nat}{e bytes n l:Nat}{xs:List Int}{y:Int}{rest:List aB}(hl:l=xs.length)(h1:xs.length+1≤maxLen)(h2:(xs.length+1)*bytes≤140737488355328) :
  pb A d e 1 bytes (.int .i64 0) n l e xs rest (enc [y])=ay rest ((A.aM n (.cU e (xs++[y]))).aO d (.own n (xs.length+1))):=by
 show pb A d e 1 bytes (.int .i64 0) n l e xs rest (.slice 1 [.int .i64 y])=_
 simp only[pb]
 rw[if_pos ⟨hl,rfl,rfl,rfl,rfl,by simp,h1,h2⟩]
 rfl
def fJ(n k:Nat):I→I
 | .own n' k'=>if n'=n∧k'=k then .view n [] 1 0 k else .own n' k'
 |v=>v
def fI(n:Nat):I→I
 | .own n' k'=>if n'=n∧k'=0 then .nils 1 else .own n' k'
 |v=>v
def iJ(f:I→I):ah→ah
 | .box v=>.box (f v)
 |y=>y
def nK(n k:Nat)(v:I):Prop:=v=.own n k∨v.only (fun j=>j != n)=true
def aj6(n k:Nat)(y:ah):Prop:=y=.box (.own n k)∨y.only (fun j=>j != n)=true
theorem rI{n k:Nat}{v:I}(h:v.only (fun j=>j != n)=true):fJ n k v=v:=by
 cases v <;>try rfl
 rename_i n' k'
 simp only[I.only,bne_iff_ne,ne_eq] at h
 simp only[fJ,h,false_and,if_false]
theorem ze{n:Nat}{v:I}(h:v.only (fun j=>j != n)=true):fI n v=v:=by
 cases v <;>try rfl
 rename_i n' k'
 simp only[I.only,bne_iff_ne,ne_eq] at h
 simp only[fI,h,false_and,if_false]
theorem pM(f:I→I)(hf:f .c9=.c9)(ts:List (Nat×I))(t:Nat):bO (ts.map fun q=>(q.1,f q.2)) t=f (bO ts t):=by
 induction ts with
 |nil=>exact hf.symm
 |cons q ts ih =>
  obtain ⟨k,v⟩:=q
  simp only[List.map_cons,bO]
  split
  ·rfl
  ·exact ih
theorem tt(f:ah→ah)(os:List (Nat×ah))(t:Nat):ak (os.map fun q=>(q.1,f q.2)) t=(ak os t).map f:=by
 induction os with
 |nil=>rfl
 |cons q os ih =>
  obtain ⟨k,v⟩:=q
  simp only[List.map_cons,ak]
  split
  ·rfl
  ·exact ih
theorem dc.dB{M:Nat→Prop}{w:World}{D:aP}{E E':aX}{p:Nat→Bool}(hp:∀ n,p n=true→E' n=E n){m:Nat}(av:E' m=E m){y:ah}(hon:y.only p=true)(ho:dc M w D E m (some y)):dc M w D E' m (some y):=by
 cases y with
 |box x =>
  obtain ⟨b,cs,T,k1,k2,k3,k4,k5⟩:=ho
  exact ⟨b,cs,T,av.trans k1,k2,k3,af.dB hp _ _ (by simpa[ah.only] using hon) k4,k5⟩
 |bW T sz es =>
  obtain ⟨aE,k1,k2,k3⟩:=ho
  refine ⟨aE,av.trans k1,k2,?_⟩
  cases aE with
  |none=>exact k3
  |some bc =>
   obtain ⟨b,cap⟩:=bc
   obtain ⟨cs,pre,rest,q1,q2,q3,q4,q5⟩:=k3
   exact ⟨cs,pre,rest,q1,q2,q3,aG.dB hp _ _ (by simpa[ah.only] using hon) q4,q5⟩
 |cU T xs =>
  obtain ⟨aE,k1,k2,k3⟩:=ho
  exact ⟨aE,av.trans k1,k2,k3⟩
 |dK x =>
  obtain ⟨b,k1,k2⟩:=ho
  exact ⟨b,av.trans k1,k2⟩
 |cu ks vs =>
  obtain ⟨b,es,ck,k1,k2,k3,k4,k5,k6,k7⟩:=ho
  simp only[ah.only,Bool.and_eq_true] at hon
  exact ⟨b,es,ck,av.trans k1,k2,k3,k4,aF.dB hp _ _ hon.1 k5,aF.dB hp _ _ hon.2 k6,k7⟩
 |it ks vs left cur =>
  obtain ⟨r,b,es,ck,si,se,la,k1,k2,k3,k4,k5,k6,k7⟩:=ho
  simp only[ah.only,Bool.and_eq_true] at hon
  exact ⟨r,b,es,ck,si,se,la,av.trans k1,k2,k3,k4,aF.dB hp _ _ hon.1 k5,aF.dB hp _ _ hon.2 k6,k7⟩
theorem rB(xs:List Int):(I.agg (xs.map enc)).aQ=.eg (List.replicate xs.length .one):=by
 show cO.eg (I.cR _)=_
 congr 1
 induction xs with
 |nil=>rfl
 |cons x xs ih=>simp only[List.map_cons,I.cR,ih,List.length_cons,List.replicate_succ];rfl
theorem rn{w:World}{D:aP}{E:aX} : ∀ {xs:List Int},(∀ x∈xs,IntKind.i64.min≤x∧x≤IntKind.i64.max)→aG w D E (xs.map enc) (xs.map (Value.int .i64))
 | [],_=>rfl
 |x::xs,h=>⟨[.int .i64 x],xs.map (Value.int .i64),rfl,⟨rfl,h x (by simp)⟩,rn fun y hy=>h y (by simp[hy])⟩
theorem az.NL{ts:List (Nat×I)}{os:List (Nat×ah)}{n T:Nat}{B:ae}(hn:ak os n=some (.cU T []))
  (h:az (ar (ts.map fun q=>(q.1,fI n q.2)) (os.map fun q=>(q.1,iJ (fI n) q.2))) B):az (ar ts os) B:=by
 refine az.trans ?_ h
 rintro c a w ⟨D,E,hs⟩
 obtain ⟨aE,av,-,hblk⟩:=hs.rJ (n:=n) (T:=T) (xs:=[]) hn
 have hnone:aE=none:=by
  cases aE with
  |none=>rfl
  |some bc=>obtain ⟨b,cap⟩:=bc;obtain ⟨_,_,_,_,_,h,_⟩:=hblk;exact absurd rfl h
 subst hnone
 have conv:∀ (v:I) (cs:List Value),af w D E v cs→af w D E (fI n v) cs:=fun v cs hr=>by
  cases v <;>try exact hr
  rename_i n' k'
  simp only[fI]
  split
  ·rename_i hh
   obtain ⟨rfl,rfl⟩:=hh
   obtain ⟨blk',l,q3,q4,q5,q6⟩:=hr
   rw[av] at q3
   simp only[Option.some.injEq,bU.rw.injEq,List.length_nil] at q3
   obtain ⟨rfl,rfl⟩:=q3
   exact q6 rfl
  ·exact hr
 refine ⟨D,E,hs.sz,hs.eM,fun t =>?_,hs.dO,hs.c6,hs.de,fun m =>?_,hs.cQ,hs.dQ,hs.eU,hs.cK,hs.eW,hs.fE⟩
 ·show aW w D E (bO _ t) _
  rw[pM _ rfl]
  have:=hs.dY t
  simp only[ar] at this
  revert this
  generalize bO ts t=v
  intro hv
  cases v <;>try exact hv
  rename_i n' k'
  obtain ⟨cs,q1,q2⟩:=hv
  have:=conv _ _ q2
  revert this
  simp only[fI]
  split
  ·intro this;exact ⟨cs,q1,this⟩
  ·intro this;exact ⟨cs,q1,this⟩
 ·show dc _ w D E m (ak _ m)
  rw[tt]
  have:=hs.bX m
  simp only[ar] at this
  revert this
  cases ak os m with
  |none=>exact id
  |some y =>
   cases y <;>try exact id
   rename_i x
   rintro ⟨b,cs,T,k1,k2,k3,k4,k5⟩
   refine ⟨b,cs,T,?_,k2,k3,conv _ _ k4,k5⟩
   rw[k1]
   have:(fI n x).aQ=x.aQ:=by
    cases x <;>try rfl
    simp only[fI]
    split <;>rfl
   rw[this]
theorem J.NK{c:cM}{x:aN}{Q:Exit→ae→Prop}{ts:List (Nat×I)}{os:List (Nat×ah)}{n T:Nat}{xs:List Int}(hn:ak os n=some (.cU T xs))(hne:xs≠[])(hlt:n<1000000)
  (ht:∀ t,nK n xs.length (bO ts t)) (ho:∀ m y,ak os m=some y→m≠n→aj6 n xs.length y)
  (h:∀ q:Nat,J c x Q (ar (ts.map fun p=>(p.1,fJ n xs.length p.2)) ((n,.box (.agg ((xs++List.replicate q 0).map enc)))::os.map fun p=>(p.1,iJ (fJ n xs.length) p.2)))):J c x Q (ar ts os):=by
 rintro code hc a w ⟨D,E,hs⟩
 obtain ⟨aE,av,hr,hblk⟩:=hs.rJ (n:=n) hn
 cases aE with
 |none=>exact absurd hblk hne
 |some bc =>
 obtain ⟨b,cap⟩:=bc
 obtain ⟨cs,q,hM,hb,hcs,-,hcap,hmax,hD⟩:=hblk
 have hp:∀ j,(fun j=>j != n) j=true→(fun j=>if j=n then some (bU.aC b (.eg (List.replicate (xs.length+q) .one))) else E j) j=E j:=fun j hj=>by
  have:j≠n:=by simpa using hj
  simp only[if_neg this]
 have conv:∀ cs0,af w D E (.own n xs.length) cs0→af w D (fun j=>if j=n then some (bU.aC b (.eg (List.replicate (xs.length+q) .one))) else E j) (.view n [] 1 0 xs.length) cs0:=fun cs0 hr=>by
  obtain ⟨blk',l,q3,q4,q5,q6⟩:=hr
  rw[av] at q3
  simp only[Option.some.injEq,bU.rw.injEq] at q3
  obtain ⟨rfl,rfl⟩:=q3
  have:=q6 rfl
  refine ⟨b,_,0,List.replicate (xs.length+q) .one,if_pos rfl,rfl,rfl,?_,by rw[List.length_replicate];omega,by rw[List.length_replicate];omega,fun s hs =>?_⟩
  ·rw[this,List.length_replicate]
   simp only[Nat.zero_mul,Nat.add_zero,Nat.sub_zero,hcap]
  ·rw[List.eq_of_mem_replicate hs];rfl
 refine h q code hc a w ⟨D,fun j=>if j=n then some (.aC b (.eg (List.replicate (xs.length+q) .one))) else E j,hs.sz,hs.eM,fun t =>?_,hs.dO,hs.c6,hs.de,fun m =>?_,fun m m' e e' b1 h1 h2 h3 h4 =>?_,fun m e hm =>?_,hs.eU,hs.cK,hs.eW,hs.fE⟩
 ·show aW w D _ (bO _ t) _
  rw[pM _ rfl]
  have hv:=hs.dY t
  simp only[ar] at hv
  rcases ht t with h1 | h1
  ·rw[h1] at hv ⊢
   simp only[fJ,and_self,if_true]
   obtain ⟨cs0,q1,q2⟩:=hv
   exact ⟨cs0,q1,conv _ q2⟩
  ·rw[rI h1]
   exact aW.dB hp h1 hv
 ·show dc _ w D _ m (ak _ m)
  simp only[ak]
  by_cases hm:m=n
  ·subst hm
   simp only[if_true]
   refine ⟨b,cs,T,?_,hM,hb,?_,hD⟩
   ·simp only[if_true]
    rw[rB,List.length_append,List.length_replicate]
   ·show aG w D _ _ _
    rw[hcs]
    refine rn fun y hy =>?_
    rcases List.mem_append.1 hy with hy | hy
    ·exact hr y hy
    ·rw[List.eq_of_mem_replicate hy];decide
  ·simp only[if_neg hm]
   rw[tt]
   have hob:=hs.bX m
   simp only[ar] at hob
   cases hy:ak os m with
   |none=>rw[hy] at hob;simp only[dc,Option.map_none] at hob ⊢;rw[if_neg hm];exact hob
   |some y =>
    rw[hy] at hob
    rcases ho m y hy hm with rfl | h1
    ·obtain ⟨b1,cs1,T1,k1,k2,k3,k4,k5⟩:=hob
     refine ⟨b1,cs1,T1,?_,k2,k3,?_,k5⟩
     ·simp only[if_neg hm]
      rw[k1]
      simp only[fJ,and_self,if_true];rfl
     ·simp only[fJ,and_self,if_true]
      exact conv _ k4
    ·have e:iJ (fJ n xs.length) y=y:=by
      cases y <;>try rfl
      simp only[ah.only] at h1
      simp only[iJ,rI h1]
     simp only[Option.map_some,e]
     exact hob.dB hp (if_neg hm) h1
 ·have cut:∀ m e,(if m=n then some (bU.aC b (.eg (List.replicate (xs.length+q) .one))) else E m)=some e→∃ e2,E m=some e2∧e2.aE=e.aE:=fun m e he=>by
   by_cases hm:m=n
   ·subst hm
    rw[if_pos rfl] at he
    cases he
    exact ⟨_,av,rfl⟩
   ·rw[if_neg hm] at he
    exact ⟨e,he,rfl⟩
  obtain ⟨e2,k1,k2⟩:=cut m e h1
  obtain ⟨e3,k3,k4⟩:=cut m' e' h2
  exact hs.cQ m m' e2 e3 b1 k1 k3 (k2.trans h3) (k4.trans h4)
 ·have hmn:m≠n:=fun e=>by rw[e,hs.kd (.inr hlt)] at hm;cases hm
  simp only[if_neg hmn]
  exact hs.dQ m e hm
end Go.Abs
namespace Go.Abs
open Go Go.RowKit
def JF(n:Nat)(cl:List Nat)(i:Nat):Bool:=(List.range n).all fun j=>j==i||(cl.getD i 0).testBit j
def tW(hs:List FuncId)(L:ep)(on:List (List Nat))(gs:List aB)(cl:List Nat)(σ:List Nat):Bool :=
 (Nat.beq σ.length gs.length&&(qX σ&&(σ.all (fun i=>decide (i<gs.length))&&((List.range gs.length).all (fun i=>σ.contains i)&&(List.range gs.length).all fun i=>oF (gs.getD i default).op&&(ij L (gs.getD i default)||(JF gs.length cl i&&σ.getLast?==some i))))))&&(qn hs L gs cl [] σ&&(List.range gs.length).all fun i=>(on.getD i []).all (fun k=>decide (k<i))&&Nat.beq (cl.getD i 0) (nW cl (on.getD i [])))
structure zQ (hs:List FuncId) (L:ep) (l:List Oper) (gs:List aB) (σ:List Nat):Prop where
 tK:σ.Nodup
 lt:∀ i∈σ,i<gs.length
 all:∀ i,i<gs.length→i∈σ
 ok:∀ i,i<gs.length→oF (gs.getD i default).op=true
 tj:∀ i o,l[i]?=some o→ij L (gs.getD i default)=true∨(σ.getLast?=some i∧∀ (S:Nat→Prop),(∀ i o,l[i]?=some o→S i→∀ k∈cZ o,S k)→(∀ k∈cZ o,S k)→∀ j,j<gs.length→j≠i→S j)
 len:σ.length=gs.length
 m5:∀ i o,l[i]?=some o→∀ k∈cZ o,k<i
 qL:∀ (S:Nat→Prop),(∀ i o,l[i]?=some o→S i→∀ k∈cZ o,S k)→∀ s1 i s2 o,σ=s1++i::s2→l[i]?=some o→(∀ k∈cZ o,S k)→∀ j∈s1,¬ S j→nB hs L (gs.getD j default) (gs.getD i default)=true
theorem akx{hs:List FuncId}{L:ep}{l:List Oper}{gs:List aB}{cl σ:List Nat}(hlen:gs.length=l.length)(h:tW hs L (l.map cZ) gs cl σ=true):zQ hs L l gs σ:=by
 simp only[tW,Bool.and_eq_true,List.all_eq_true,decide_eq_true_eq,List.mem_range,List.contains_eq_mem] at h
 obtain ⟨⟨h1,h2,h3,h4,h5⟩,h6,h7⟩:=h
 have da:∀ i o,l[i]?=some o→(∀ k∈cZ o,k<i)∧(∀ j,(cl.getD i 0).testBit j=true→j∈cZ o∨∃ k∈cZ o,(cl.getD k 0).testBit j=true):=by
  intro i o ho
  have hi:i<l.length:=(List.getElem?_eq_some_iff.1 ho).1
  have h8:=h7 i (by omega)
  have hon:(l.map cZ).getD i []=cZ o:=by simp[List.getD_eq_getElem?_getD,ho]
  rw[hon] at h8
  have hb:=Nat.eq_of_beq_eq_true h8.2
  exact ⟨h8.1,fun j hj=>uA (by rw[←hb];exact hj)⟩
 have keyS:∀ (S:Nat→Prop),(∀ i o,l[i]?=some o→S i→∀ k∈cZ o,S k)→∀ n i o,i≤n→l[i]?=some o→(∀ k∈cZ o,S k)→∀ j,(cl.getD i 0).testBit j=true→S j:=by
  intro S hS n
  induction n with
  |zero =>
   intro i o hi ho hon j hj
   obtain ⟨h8,h9⟩:=da i o ho
   rcases h9 j hj with h | ⟨k,hk,_⟩
   ·exact hon j h
   ·have:=h8 k hk;omega
  |succ n ih =>
   intro i o hi ho hon j hj
   obtain ⟨h8,h9⟩:=da i o ho
   rcases h9 j hj with h | ⟨k,hk,hjk⟩
   ·exact hon j h
   ·have hki:=h8 k hk
    have hkl:k<l.length:=Nat.lt_trans hki (List.getElem?_eq_some_iff.1 ho).1
    obtain ⟨ok,hok⟩:∃ ok,l[k]?=some ok:=⟨l[k],List.getElem?_eq_getElem hkl⟩
    exact ih k ok (by omega) hok (hS k ok hok (hon k hk)) j hjk
 refine ⟨x4 h2,h3,h4,fun i hi=>(h5 i hi).1,fun i o ho =>?_,Nat.eq_of_beq_eq_true h1,fun i o ho=>(da i o ho).1,?_⟩
 ·have hi:i<gs.length:=by rw[hlen];exact (List.getElem?_eq_some_iff.1 ho).1
  have h5o:=(h5 i hi).2
  rw[Bool.or_eq_true] at h5o
  rcases h5o with h | h
  ·exact .inl h
  ·rw[Bool.and_eq_true] at h
   obtain ⟨h,hla⟩:=h
   refine .inr ⟨by simpa using hla,fun S hS hon j hj hji =>?_⟩
   simp only[JF,List.all_eq_true,List.mem_range,Bool.or_eq_true,beq_iff_eq] at h
   rcases h j hj with e | e
   ·exact absurd e hji
   ·exact keyS S hS i i o (Nat.le_refl _) ho hon j e
 intro S hS s1 i s2 o e ho hon j hj hnj
 have key:=keyS S hS
 rcases uW h6 s1 i s2 e j (.inr hj) with h | h
 ·exact absurd (key i i o (Nat.le_refl _) ho hon j h) hnj
 ·exact h
section
variable {c:cM}
theorem PV{K:ae→Prop}{fs:List FuncId}{L:ep}{bC:Array Oper}{gs:List aB}{σ:List Nat}{Q:Exit→Act→World→Prop}(hQ:∀ B a w,K B→cj c B a w→Q .normal a w)(hgs:j9 c.P c.n bC bC.toList=some gs)(hd:zQ fs L bC.toList gs σ) :
  ∀ (fuel:Nat) (listed:Array Bool) (A:ae) (a:Act) (w:World),listed.size=bC.size→(∀ i o,bC.toList[i]?=some o→listed.getD i false=true→∀ k∈cZ o,listed.getD k false=true)→(eV σ listed).length≤fuel →
   (eV σ listed=[]∨en L A)→b9 c.P fs K (ay (jy gs σ listed) A)→cj c A a w→wpAnyIn c.bh 9 c.P .any bC Q fuel listed a w:=by
 obtain ⟨hlen,hat⟩:=ka hgs
 have onOf_mem:∀ (o:Oper) (e:Edge),e∈o.after→Region.binds .any e=true→e.on∈cZ o:=fun o e he hb=>by
  simp only[cZ,List.mem_map,List.mem_filter]
  exact ⟨e,⟨by simpa using he,hb⟩,rfl⟩
 have of_onOf:∀ (o:Oper) (k:Nat),k∈cZ o→∃ e∈o.after,Region.binds .any e=true∧e.on=k:=fun o k hk=>by
  simp only[cZ,List.mem_map,List.mem_filter] at hk
  obtain ⟨e,⟨h1,h2⟩,h3⟩:=hk
  exact ⟨e,by simpa using h1,h2,h3⟩
 have hgl:gs.length=bC.size:=by rw[hlen,Array.length_toList]
 have last:∀ (listed:Array Bool) (A:ae) (a:Act) (w:World),listed.size=bC.size→Region.ready .any bC listed=[]→b9 c.P fs K (ay (jy gs σ listed) A)→cj c A a w→Q .normal a w:=by
  intro listed A a w hsz hr hwp hs
  have hnone:eV σ listed=[]:=by
   have all:∀ n,∀ i,i<n→i<bC.size→listed.getD i true=true:=by
    intro n
    induction n with
    |zero=>intro i hi;omega
    |succ n ih =>
     intro i hi his
     cases hb:listed.getD i true with
     |true=>rfl
     |false =>
      exfalso
      have ho:bC[i]?=some bC[i]:=Array.getElem?_eq_getElem his
      have:i∈Region.ready .any bC listed:=mem_ready.2 ⟨hb,bC[i],ho,fun e he hbd=>by
       have hlt:=hd.m5 i bC[i] (by simp) e.on (onOf_mem _ e he hbd)
       have h1:=ih e.on (by omega) (by omega)
       have h2:e.on<listed.size:=by omega
       simpa[Array.getD_eq_getD_getElem?,h2] using h1⟩
      rw[hr] at this
      cases this
   simp only[eV]
   refine List.filter_eq_nil_iff.2 fun i hi =>?_
   have:=all (i+1) i (by omega) (by rw[←hgl];exact hd.lt i hi)
   simp only[this,Bool.not_true,Bool.false_eq_true,not_false_eq_true]
  simp only[jy,hnone,List.map_nil,ay] at hwp
  cases hwp with
  |done hk=>exact hQ A a w hk hs
 intro fuel
 induction fuel with
 |zero =>
  intro listed A a w hsz hcl hcnt hinv hwp hs
  have hnone:eV σ listed=[]:=List.length_eq_zero_iff.1 (by omega)
  have hr:Region.ready .any bC listed=[]:=by
   refine List.eq_nil_iff_forall_not_mem.2 fun i hi =>?_
   obtain ⟨h1,o,ho,_⟩:=mem_ready.1 hi
   have:i∈eV σ listed:=by
    simp only[eV,List.mem_filter,h1,Bool.not_false,and_true]
    exact hd.all i (by rw[hgl];exact (Array.getElem?_eq_some_iff.1 ho).1)
   rw[hnone] at this
   cases this
  exact ⟨hr,last listed A a w hsz hr hwp hs⟩
 |succ fuel ih =>
  intro listed A a w hsz hcl hcnt hinv hwp hs
  refine ⟨fun hr=>last listed A a w hsz hr hwp hs,fun i hi =>?_⟩
  obtain ⟨hun,o,ho,hall⟩:=mem_ready.1 hi
  have hin:i<bC.size:=(Array.getElem?_eq_some_iff.1 ho).1
  obtain ⟨s1,s2,hσ,e1,e2⟩:=MH hd.tK (hd.all i (by omega)) (by omega) hun
  have hinv:en L A:=by
   rcases hinv with h | h
   ·rw[e1] at h;simp at h
   ·exact h
  have hol:bC.toList[i]?=some o:=by simpa using ho
  obtain ⟨g,hgi,hcg⟩:=hat i o hol
  have hon:∀ k∈cZ o,listed.getD k false=true:=fun k hk=>by
   obtain ⟨e,h1,h2,h3⟩:=of_onOf o k hk
   exact h3▸hall e h1 h2
  have hgd:gs.getD i default=g:=by simp[List.getD_eq_getElem?_getD,hgi]
  have hwp':b9 c.P fs K (ay (g::jy gs σ (listed.setIfInBounds i true)) A):=by
   simp only[jy,e1,List.map_append,List.map_cons,hgd] at hwp
   simp only[jy,e2,List.map_append]
   refine b9.ph hinv (fun j hj =>?_) hwp
   obtain ⟨k,hk,rfl⟩:=List.mem_map.1 hj
   obtain ⟨hk1,hk2⟩:=List.mem_filter.1 hk
   have:=hd.qL (fun k=>listed.getD k false=true) hcl s1 i s2 o hσ hol hon k hk1 (by
    have hks:k<listed.size:=by
     have:=hd.lt k (by rw[hσ];exact List.mem_append_left _ hk1)
     omega
    simp[Array.getD_eq_getD_getElem?,hks] at hk2 ⊢
    exact hk2)
   rw[hgd] at this
   have hkl:=hd.lt k (by rw[hσ];exact List.mem_append_left _ hk1)
   have hks:k<bC.size:=by omega
   refine ⟨this,?_⟩
   rcases hd.tj k bC[k] (by simp) with h | h
   ·exact h
   ·exfalso
    have h9:=h.1
    rw[hσ,List.getLast?_append] at h9
    have hne:(i::s2).getLast?=some k:=by
     cases h10:(i::s2).getLast? with
     |none=>simp at h10
     |some q=>rw[h10] at h9;simpa using h9
    have hk2:k∈i::s2:=List.mem_of_getLast? hne
    have hnd:=hd.tK
    rw[hσ] at hnd
    exact (List.nodup_append.1 hnd).2.2 k hk1 k hk2 rfl
  unfold wpOpIn
  rw[ho]
  have hgm:g∈gs:=List.mem_of_getElem? hgi
  have hokg:oF g.op=true:=by
   have:=hd.ok i (by omega)
   rwa [hgd] at this
  have hcl':∀ m om,bC.toList[m]?=some om→(listed.setIfInBounds i true).getD m false=true→∀ k∈cZ om,(listed.setIfInBounds i true).getD k false=true:=by
   intro m om hom hm k hk
   by_cases hmi:m=i
   ·subst hmi
    rw[hol,Option.some.injEq] at hom
    subst hom
    exact getD_set_true (hon k hk)
   ·rw[getD_set_ne false (Ne.symm hmi)] at hm
    exact getD_set_true (hcl m om hom hm k hk)
  have hfu:(eV σ (listed.setIfInBounds i true)).length≤fuel:=by
   have:(eV σ listed).length=(eV σ (listed.setIfInBounds i true)).length+1:=by
    rw[e1,e2];simp;omega
   omega
  rcases hd.tj i o hol with hlb | ⟨hla,hlb⟩
  ·rw[hgd] at hlb
   exact xk hcg hinv ⟨hokg,hlb⟩ hwp' hs fun B a' w' hw hiB hs'=>ih _ B a' w' (by simpa using hsz) hcl' hfu (.inr hiB) hw hs'
  ·have hnil:eV σ (listed.setIfInBounds i true)=[]:=by
    simp only[eV]
    refine List.filter_eq_nil_iff.2 fun j hj =>?_
    have hjl:=hd.lt j hj
    by_cases hji:j=i
    ·subst hji
     have:j<listed.size:=by omega
     simp[this]
    ·have h5:=hlb (fun k=>listed.getD k false=true) hcl hon j hjl hji
     have hjs:j<listed.size:=by omega
     have h6:(listed.setIfInBounds i true).getD j true=listed.getD j true:=getD_set_ne true (Ne.symm hji)
     rw[h6]
     simp[Array.getD_eq_getD_getElem?,hjs] at h5 ⊢
     exact h5
   have hin0:en [] A:=fun s ns h=>by cases h
   exact xk (L:=[]) hcg hin0 ⟨hokg,by simp[ij,iY];cases g.dst <;>rfl⟩ hwp' hs fun B a' w' hw hiB hs'=>ih _ B a' w' (by simpa using hsz) hcl' hfu (.inl hnil) hw hs'
theorem J.akZ{Q:Exit→ae→Prop}{A:ae}{on:List (List Nat)}{gs:List aB}(hs:List FuncId)(L:ep)(cl σ:List Nat)(hd:tW hs L on gs cl σ=true)(hi:en L A)(h:∀ K:ae→Prop,(∀ B,Q .normal B→K B)→b9 c.P hs K (ay (lT σ gs) A)):J c (.bT (some on) gs) Q A:=by
 intro code hc a w hs'
 cases code <;>simp only[eX] at hc <;>try (first | (cases hc;done) | ((repeat' split at hc) <;>cases hc;done))
 rename_i id bC draw
 split at hc
 ·rename_i gs' hgs
  split at hc
  case isFalse=>cases hc
  rename_i hok
  simp only[Option.some.injEq,aN.bT.injEq] at hc
  obtain ⟨he,rfl⟩:=hc
  cases draw with
  |false=>cases he
  |true =>
   simp only[cond_true,Option.some.injEq] at he
   subst he
   simp only[Bool.not_true,Bool.false_or] at hok
   have hp:=akx (ka hgs).1 hd
   refine wpIn_region_any hok (PV (K:=Q .normal) (fun B a w hk hs=>⟨B,hk,hs⟩) hgs hp bC.size (Array.replicate bC.size false) A a _ (by simp) ?_ ?_ (.inr hi) ?_ ?_)
   ·intro i o _ h
    exfalso
    simp only[Array.getD_eq_getD_getElem?,Array.getElem?_replicate] at h
    split at h <;>simp at h
   ·refine Nat.le_trans (List.length_filter_le _ _) ?_
    rw[hp.len,(ka hgs).1,Array.length_toList];exact Nat.le_refl _
   ·have hall:eV σ (Array.replicate bC.size false)=σ:=by
     simp only[eV]
     refine List.filter_eq_self.2 fun i hi =>?_
     have h1:=hp.lt i hi
     rw[(ka hgs).1,Array.length_toList] at h1
     simp[h1]
    simp only[jy,hall]
    exact h _ fun _ hb=>hb
   ·obtain ⟨D,E,hs'⟩:=hs'
    exact ⟨D,E,hs'.grow (w' := { w with drawn:=w.drawn+1 }) ⟨rfl,rfl,rfl,Nat.le_refl _,fun _ _=>rfl⟩ (fun _ _ h=>h) (fun _ _ h _=>h) (fun b o h=>hs'.de b o h)⟩
 ·cases hc
end
end Go.Abs
namespace Go.Abs
open Go Go.RowKit
open Enc (enc)
def xM:Option Nat→Code
 |none=>.ret
 |some id=>.exit id
def De:Option Nat→Exit
 |none=>.ret
 |some id=>.exit id
def qi(o:Obj)(A:ae)(os:List (Nat×ah)):Prop:=∀ n x,ak (dE o os) n=some x→A.o n=some x∧x.only (aq (dE o os))=true∧x.eR=true
def alg(o:Obj)(In:List (Nat×ah)→Prop)(Ix:Option Nat→List (Nat×ah)→Prop):Exit→ae→Prop
 | .normal,A=>∃ os,qi o A os∧In os
 | .ret,A=>∃ os,qi o A os∧Ix none os
 | .exit id,A=>∃ os,qi o A os∧Ix (some id) os
 |_,_=>False
def Px(P:Program)(nn:Nat)(x y:aN)(ps:List Nat)(tsR:List (Nat×I))(N:Nat)(item:Nat→List I)(ai:Nat→List (Nat×ah)→Prop)(Ix:Option Nat→List (Nat×ah)→Prop):Prop :=
 ∀ k osb,k<N→ai k osb→∀ (w:World) (D:aP) (E:aX) (l:Nat) (o1 o2:Obj),
  J ⟨P,w,D,nn,dy E,E,iA,some l⟩ x (al (fun B=>B.o 1999999=some (.dK o1)∧J ⟨P,w,D,nn,dy E,E,iA,some l⟩ y (alg o2 (ai (k+1)) Ix) (B.aM 1999999 (.dK o2))) (fun _ _=>False)) (ar (rm ps (item k) tsR) (dE o1 osb))
section
variable {c:cM} {Q:Exit→ae→Prop}
theorem ahW{o:Obj}{A:ae}{os:List (Nat×ah)}(h:qi o A os)(o':Obj):∀ n x,ak (dE o' os) n=some x→(A.aM 1999999 (.dK o')).o n=some x∧x.only (aq (dE o' os))=true∧x.eR=true:=fun n x hx=>by
 have e:aq (dE o' os)=aq (dE o os):=by funext m;rw[lN,lN]
 rw[e]
 by_cases hn:n=1999999
 ·subst hn
  rw[pL,if_pos rfl,Option.some.injEq] at hx
  subst hx
  exact ⟨by simp[ae.aM],rfl,rfl⟩
 ·rw[pL,if_neg hn] at hx
  obtain ⟨h1,h2⟩:=h n x (by rw[pL,if_neg hn];exact hx)
  exact ⟨by simp only[ae.aM,if_neg hn];exact h1,h2⟩
theorem J.kU{f:aK}{ps:List Nat}{x y:aN}{ts tsR:List (Nat×I)}{os0 osb0:List (Nat×ah)}{ρ:List (Nat×Nat)}{g:FuncId}{caps:List I}{N:Nat}{item:Nat→List I}
  (ai:Nat→List (Nat×ah)→Prop) (Ix:Option Nat→List (Nat×ah)→Prop) (hr:c.mP=none) (hn6:c.n≤1000000)
  (hf:ab (ar ts os0) f=.func g caps) (hcl:I.bY caps=true) (hcb:gS c.P g=true) (hit:uT c.P g caps N item) (hlen:∀ k,(item k).length=ps.length)
  (hfree:ak os0 999999=none) (h19:aq osb0 1999999=false) (hρ:bJ ρ 1999999=999999)
  (hgv:∀ o,gm ρ (dE o osb0) ((999999,.dK o)::os0)) (hts:mX ρ (aq osb0) ts tsR)
  (hI:∀ k os,ai k os→fB osb0 os) (hIx:∀ e os,Ix e os→fB osb0 os) (h0:ai 0 osb0)
  (hround:Px c.P c.n x y ps tsR N item ai Ix)
  (hdone:∀ os,ai N os→Q .normal (ar ts (dN ρ os++os0))) (hexit:∀ e os,Ix e os→Q (De e) (ar ts (dN ρ os++os0))) :
  J c (.kU f ps x y) Q (ar ts os0):=by
 intro code hc a w hs
 cases code <;>simp only[eX] at hc <;>try (first | (cases hc;done) | ((repeat' split at hc) <;>cases hc;done))
 rename_i cf cps cx cy
 split at hc
 case h_2=>cases hc
 rename_i f' x' y' hcf hcx hcy
 split at hc
 case isFalse=>cases hc
 rename_i hpn
 simp only[Option.some.injEq,aN.kU.injEq] at hc
 obtain ⟨rfl,rfl,rfl,rfl⟩:=hc
 obtain ⟨D,E,hs⟩:=hs
 have hF:c.bh=Fence.wide:=by unfold cM.bh;rw[hr]
 have hE0:c.du 999999=none:=hs.kd (.inr (by decide))
 have hval:∃ vs:List Value,a.eval cf=.func (.func g) #[] vs.toArray∧aF w D E caps vs:=by
  have hv:=b8 hs hcf
  rw[hf] at hv
  obtain ⟨cs,q1,q2⟩:=hv
  simp only[af] at q2
  obtain ⟨vs,q3,q4⟩:=q2
  exact ⟨vs,by simpa[bK,I.isAgg,q3] using q1.symm,q4⟩
 obtain ⟨vs,hval,hvs⟩:=hval
 rw[hF]
 refine wpIn_rangeFunc fun fn hfn =>?_
 obtain ⟨rec,hrec⟩:∃ rec:LoopState→Option Code→Loop,rec=fun bl pe => { state:=bl,pending:=pe,fn,tmps:=a.tmps,params:=cps,assign:=cx,body:=cy,defers:=w.heap.size } :=⟨_,rfl⟩
 obtain ⟨E1,hs1,hE1,hup⟩:=hs.enter hfree hE0 (o:=.loop (rec .ready none)) rfl
 obtain ⟨W1,hW1⟩:∃ W1,(w.alloc (.deferred (some []))).alloc (.loop (rec .ready none))=W1:=⟨_,rfl⟩
 rw[hW1] at hs1 hup
 obtain ⟨l,hl⟩:∃ l,l=w.heap.size+1:=⟨_,rfl⟩
 rw[←hl] at hE1
 obtain ⟨yv,hyv⟩:∃ yv:Value,yv=.func (.yield l) #[] #[]:=⟨_,rfl⟩
 obtain ⟨a1,ha1⟩:∃ a1:Act,a1 = { a with defers := { target:=.collected w.heap.size,args := #[] } :: a.defers } :=⟨_,rfl⟩
 rw[←ha1] at hs1
 refine ⟨l,[{ target:=.collected w.heap.size,args := #[] }],W1,{ target:=.fn (.func g) vs.toArray,args := #[yv] },W1,g,#[yv]++vs.toArray,W1,?_,?_,?_,?_,fun _=>by decide,?_⟩
 ·rw[←hW1,hrec,hl]
  exact run_enterLoop_outer _ _ _ _ _
 ·simp only[resolve,hval,hyv]
  simp[go_sem]
 ·intro f' _;trivial
 ·simp only[invoke,yN hcb]
 ·-- the iterator's own bargain
  have hG0:=hI 0 osb0 h0
  obtain ⟨I',hI'⟩:∃ I':Nat→List (Nat×ah)→Prop,I'=fun k os=>∃ osb,os=dE (.loop (rec .ready none)) osb∧ai k osb:=⟨_,rfl⟩
  obtain ⟨Ix',hIx'⟩:∃ Ix':List (Nat×ah)→Prop,Ix'=fun os=>∃ e osb,os=dE (.loop (rec .done (some (xM e)))) osb∧Ix e osb:=⟨_,rfl⟩
  obtain ⟨os1,hos1⟩:∃ os1,os1=dE (.loop (rec .ready none)) osb0:=⟨_,rfl⟩
  obtain ⟨Y,hY⟩:∃ Y:Value→List I→List (Nat×ah)→cV→Prop,Y=fun v args os post=>v=yv∧∃ k,args=item k∧k<N∧I' k os∧∀ r os2,(r=.bool true∧I' (k+1) os2)∨(r=.bool false∧Ix' os2)→post r os2:=⟨_,rfl⟩
  have ke:∀ k os',I' k os'→fB os1 os':=fun k os' h=>by
   rw[hI'] at h;obtain ⟨osb,rfl,h⟩:=h
   rw[hos1];exact (hI k osb h).dE _ _
  have goodx:∀ os',Ix' os'→fB os1 os':=fun os' h=>by
   rw[hIx'] at h;obtain ⟨e,osb,rfl,h⟩:=h
   rw[hos1];exact (hIx e osb h).dE _ _
  have hctr:=hit Y yv I' Ix' os1 (by rw[hyv];rfl) (fun k os' post hk h1 h2=>by rw[hY];exact ⟨rfl,k,rfl,hk,h1,h2⟩) ke goodx (by rw[hI'];exact ⟨osb0,hos1,h0⟩)
  have hgv1:gm ρ os1 ((999999,.dK (.loop (rec .ready none)))::os0):=by rw[hos1];exact hgv _
  obtain ⟨A0,hA0⟩:∃ A0:ae,A0=ar ts ((999999,.dK (.loop (rec .ready none)))::os0):=⟨_,rfl⟩
  have hand:ql (Calls c.P g) (fun w D E=>∀ n,o7 ⟨c.P,w,D,n,dy E,E,Y,none⟩) (.raw yv::caps) os1 (fun r os'=>r=.tuple []∧(I' N os'∨Ix' os')):=fun w D E vs hy hlive hheld hv=>by
   refine (hctr.2 w D E vs hy hlive hheld hv).mono fun e w' ⟨v,he,D',E',r,os',q⟩=>⟨v,D',E',r,os',he,q⟩
  have hshare:=hs1.oQ
  obtain ⟨Dh,hDh⟩:∃ Dh,Dh=oN (ar ts ((999999,.dK (.loop (rec .ready none)))::os0)) D E1:=⟨_,rfl⟩
  rw[←hDh] at hshare
  have hsh:=hshare.1
  obtain ⟨Eh,hEh⟩:∃ Eh,Eh=av ρ os1 E1:=⟨_,rfl⟩
  have isrec:aq os1 1999999=true:=by rw[hos1,lN];simp
  have hEl:Eh 1999999=some (.op l):=by rw[hEh];simp only[av,isrec,if_true,hρ];exact hE1
  have EhIn:∀ n e,Eh n=some e→aq os1 n=true:=fun n e h=>by
   rw[hEh] at h;simp only[av] at h;split at h
   ·assumption
   ·cases h
  have hyok:∀ n,o7 ⟨c.P,W1,Dh,n,dy Eh,Eh,Y,none⟩:=by
   intro n v' args os' post' hYv w2 D2 E2 vs2 hsince hlive hheld hrvs
   rw[hY] at hYv
   obtain ⟨rfl,k,rfl,hkN,hIk,hpost⟩:=hYv
   have hIk0:=hIk
   rw[hI'] at hIk
   obtain ⟨osb,rfl,hIk⟩:=hIk
   have gk:=ke k _ hIk0
   have gkb:=hI k osb hIk
   have in2:∀ m,aq os1 m=true→E2 m≠none:=fun m hm=>by
    rw[←gk.same m] at hm
    cases hx:ak (dE (.loop (rec .ready none)) osb) m with
    |none=>simp[aq,hx] at hm
    |some x=>have:=hheld.bX m;rw[hx] at this;exact tM this
   have same2:∀ m e,Eh m=some e→e.eR=true→E2 m=some e:=fun m e he hfx=>by
    rcases hsince.dQ m e he with h | ⟨e',h,hle⟩
    ·exact absurd h (in2 m (EhIn m e he))
    ·rw[hle.eq hfx] at h;exact h
   have hEl2:E2 1999999=some (.op l):=same2 _ _ hEl rfl
   have hob:=hheld.bX 1999999
   rw[pL,if_pos rfl] at hob
   obtain ⟨b,j1,_,j3,_,_⟩:=hob
   rw[hEl2] at j1
   cases j1
   have hsz:vs2.toArray.size=cps.size:=by have:=yU hrvs;rw[hlen] at this;simpa using this
   have hyr:=run_yield (P:=c.P) (args:=vs2.toArray) j3 (by rw[hrec];exact hsz)
   rw[hrec] at hyr
   refine ⟨l,hyv,fn,_,cx,cy,hyr,roundIn_of_wpIn trivial ?_⟩
   clear hyr
   -- the round's own frame
   obtain ⟨cr,hcr⟩:∃ cr:cM,cr=⟨c.P,w2,D2,c.n,dy E2,E2,iA,some l⟩:=⟨_,rfl⟩
   have hFr:cr.bh=Fence.wide.inRound l:=by rw[hcr];rfl
   have hlat:dM W1 Dh Eh w2 D2 E2:=by
    refine ⟨hsince.cK,hsince.fE.cell,fun m b aQ he=>same2 m _ he rfl,fun m aE l he =>?_,fun m b he=>same2 m _ he rfl,fun m b he=>same2 m _ he rfl,hsince.fE.jw⟩
    rcases hsince.dQ m _ he with h | ⟨e',h,hle⟩
    ·exact absurd h (in2 m (EhIn m _ he))
    ·rcases hle with rfl | ⟨_,_,blk',l',e,rfl,k1,k2⟩
     ·exact ⟨aE,l,h,Nat.le_refl _,fun _=>rfl⟩
     ·cases e;exact ⟨blk',l',h,k1,k2⟩
   have hslots:mX ρ (aq os1) ts tsR:=by
    have:∀ tsR:List (Nat×I),mX ρ (aq osb0) ts tsR→mX ρ (aq os1) ts tsR:=by
     intro tsR
     induction tsR with
     |nil=>exact fun h=>h
     |cons q r ih =>
      intro h
      obtain ⟨h1,h2,h3⟩:=h
      exact ⟨h1,jc (fun n hn=>by rw[hos1,lN,hn];simp) _ h2,ih h3⟩
    exact this tsR hts
   have hsr:aS cr (ar tsR (dE (.loop (rec .ready none)) osb)) { tmps:=a.tmps,defers:=[] } w2 D2 E2:=by
    rw[hcr]
    refine ⟨hs.sz,⟨[],rfl,.nil,fun _ h=>by simp at h⟩,fun t =>?_,fK.refl _ _,fun _ _ h _=>h,hlive,fun m=>(hheld.bX m).mC fun e b he hb=>.inr ⟨m,e,he,hb⟩,hheld.cQ,fun _ e h=>.inr ⟨e,h,.refl e⟩,fun m hm =>?_,fun _ _ h=>h,(fun _ _ _ _ h=>h.elim),.refl _ _⟩
    ·rcases Nh hslots t with h | ⟨h1,h2⟩
     ·simp only[ar];rw[h];simp[aW]
     ·have h3:=hsh.dY t
      rw[ha1] at h3
      simp only[ar] at h3 ⊢
      rw[h1] at h3
      have h4:=(aW.aR (w:=W1) (D:=Dh) (p:=aq os1) (ρ:=bJ ρ) (E:=Eh) (E':=E1) (fun n hn=>by rw[hEh];simp only[av,hn,if_true]) h2).1 h3
      exact aW.bL hlat h4
    ·have hmi:aq os1 m=true:=by
      rw[←gk.same m]
      have:=hheld.bX m
      cases hx:ak (dE (.loop (rec .ready none)) osb) m with
      |none=>rw[hx] at this;exact absurd this hm
      |some x=>simp[aq,hx]
     have:=gk.oo m hmi
     exact ⟨Nat.le_trans hn6 this,this⟩
   have hsp:=aS.KH cps.toList vs2 (item k) tsR _ hsr (fun p hp=>by rw[hcr];have:=List.all_eq_true.1 hpn p hp;simpa using this) hrvs (by have:=hsz;simpa using this.symm)
   have htm:(cps.zip vs2.toArray).foldl (fun t (q:Tmp×Value)=>t.setIfInBounds q.1 q.2) a.tmps=(cps.toList.zip vs2).foldl (fun t q=>t.setIfInBounds q.1 q.2) a.tmps:=by
    rw[←Array.foldl_toList];simp
   have hx:=hround k osb hkN hIk w2 D2 E2 l (.loop (rec .ready none)) (.loop { rec .ready none with state:=.busy })
   rw[←hcr] at hx
   have hx1:=hx cx (by rw[hcr];exact hcx) _ w2 ⟨D2,E2,hsp⟩
   rw[hFr] at hx1
   simp only[←htm] at hx1
   rw[hcr] at hx1
   refine wpIn_mono hx1 ?_
   rintro e ax wx ⟨B,hq,hsx⟩
   rw[←hcr] at hq hsx
   cases e <;>simp only[al] at hq <;>try exact hq.elim
   simp only[Exit.then]
   obtain ⟨hB1,hB2⟩:=hq
   obtain ⟨Dx,Ex,hsx⟩:=hsx
   have hElx:Ex 1999999=some (.op l):=by
    have ho:=hsx.bX 1999999
    rw[hB1] at ho
    rcases hsx.Dy (n:=1999999) (by rw[hcr];exact hEl2) rfl with h | h
    ·exact absurd h (tM ho)
    ·exact h
   have hLx:wx.heap[l]?=some (.loop (rec .ready none)):=by
    have ho:=hsx.bX 1999999
    rw[hB1] at ho
    obtain ⟨b,k1,_,k3,_⟩:=ho
    rw[hElx] at k1;cases k1;exact k3
   refine ⟨_,run_beginRound hLx (by rw[hrec]),?_⟩
   have hsb:=hsx.yX (o':=.loop { rec .ready none with state:=.busy }) hB1 hElx rfl
   have hy1:=hB2 cy (by rw[hcr];exact hcy) _ _ ⟨Dx,Ex,hsb⟩
   rw[hFr] at hy1
   rw[hcr] at hy1
   refine wpIn_mono hy1 ?_
   rintro e a3 w3 ⟨A3,hq3,D3,E3,hs3⟩
   rw[←hcr] at hs3
   -- the end of the round
   have bd:∀ (os:List (Nat×ah)) (jump:Option Code),qi (.loop { rec .ready none with state:=.busy }) A3 os→(post' (.bool jump.isNone) (dE (.loop (rec (if jump.isNone then .ready else .done) jump)) os)) →
     ∃ v w',(Instr.endRound l jump).run c.P w3=.ok v w'∧(fun e w'=>∃ v D' E' r os',e=Ending.returned v∧post' r os'∧aW w' D' E' r v∧lg (fun b=>w2.heap.size≤b∨dy E2 b) w' D' E' (ak os') ∧
      fK (fun b=>w2.heap.size≤b∨dy E2 b) w2 w'∧(∀ b o,D2 b o→D' b o)∧(∀ b o,D' b o→b<w'.heap.size)∧(∀ b o,D' b o→b<w2.heap.size→¬ dy E2 b→D2 b o) ∧
      (∀ n e,E2 n=some e→aq os' n=true→∃ e',E' n=some e'∧e.le e')∧im w2 D2 w') (.returned v) w':=fun os jump hbk hp=>by
    have hA3:A3.o 1999999=some (.dK (.loop { rec .ready none with state:=.busy })):=(hbk 1999999 _ (by rw[pL,if_pos rfl])).1
    have hEl3:E3 1999999=some (.op l):=by
     have ho:=hs3.bX 1999999
     rw[hA3] at ho
     rcases hs3.Dy (n:=1999999) (by rw[hcr];exact hEl2) rfl with h | h
     ·exact absurd h (tM ho)
     ·exact h
    have hL3:w3.heap[l]?=some (.loop { rec .ready none with state:=.busy }):=by
     have ho:=hs3.bX 1999999
     rw[hA3] at ho
     obtain ⟨b,k1,_,k3,_⟩:=ho
     rw[hEl3] at k1;cases k1;exact k3
    have hend:=run_endRound (P:=c.P) jump hL3
    have erec:({ rec .ready none with state:=if jump.isNone then LoopState.ready else .done,pending:=jump } : Loop)=rec (if jump.isNone then .ready else .done) jump:=by rw[hrec]
    have hend':(Instr.endRound l jump).run c.P w3=.ok (.bool jump.isNone) (w3.putObj l (.loop (rec (if jump.isNone then .ready else .done) jump))):=by
     rw[hend];rw[hrec]
    have hs4:=hs3.yX (o':=.loop (rec (if jump.isNone then .ready else .done) jump)) hA3 hEl3 rfl
    rw[hcr] at hs4
    obtain ⟨D',E',_,_,_,q1,q2,q3,q4,q5,q6⟩:=hs4.JJ (ahW hbk _)
    exact ⟨_,_,hend',_,D',E',.bool jump.isNone,_,rfl,hp,⟨[.bool jump.isNone],by simp[bK,I.isAgg],by simp[af]⟩,q1,q2,q3,q4,q5,q6⟩
   cases e with
   |normal =>
    obtain ⟨os,hbk,hin⟩:=hq3
    exact bd os none hbk (hpost _ _ (.inl ⟨rfl,by rw[hI'];exact ⟨os,rfl,hin⟩⟩))
   |ret =>
    obtain ⟨os,hbk,hin⟩:=hq3
    exact bd os (some .ret) hbk (hpost _ _ (.inr ⟨rfl,by rw[hIx'];exact ⟨none,os,rfl,hin⟩⟩))
   |exit id =>
    obtain ⟨os,hbk,hin⟩:=hq3
    exact bd os (some (.exit id)) hbk (hpost _ _ (.inr ⟨rfl,by rw[hIx'];exact ⟨some id,os,rfl,hin⟩⟩))
   |goto t=>exact hq3.elim
   |panic ch=>exact hq3.elim
   |outgrown=>exact hq3.elim
  -- the call
  have hargs:fQ (aW W1 D E1) (.raw yv::caps) (yv::vs):=by
   exact .cons ⟨[yv],by simp[bK,I.isAgg],by rw[hyv];exact ⟨rfl,rfl⟩⟩ (yR (hup caps vs hvs))
  have hus:=hand.use (ρ:=ρ) hs1 false (fun h=>h.mono) ⟨(fun h=>by cases h),fun _=>by rw[←hDh,←hEh];exact hyok⟩ hgv1 (u9 _ (by simp[I.bY,I.bt,hcl]))
   (fun r os' hp=>by
    have gg:fB os1 os':=by
     rcases hp.2 with h | h
     ·exact ke _ _ h
     ·exact goodx _ h
    refine ⟨fun m x hx=>⟨(gg.ok m x hx).1,(gg.ok m x hx).2,fun h=>by cases h⟩,fun m m' h1 h2=>hgv1.inj m m' (by rw[←gg.same];exact h1) (by rw[←gg.same];exact h2),fun m hm=>by rw[gg.same];exact hm,fun m h1 h2=>(by rw[gg.same,h2] at h1;cases h1),(by rw[hp.1];simp[I.only,I.bV]),fun h=>by cases h⟩) hargs
  have ecl : #[yv]++vs.toArray=(yv::vs).toArray:=by simp
  rw[ecl]
  refine CallsIn.mono (callsIn_wide.2 hus) ?_
  rintro e w3 ⟨v,r,os',D2,E2,rfl,hp,hs2,_,hE2⟩
  have key:∀ (o3:Obj) (osb:List (Nat×ah)),os'=dE o3 osb→pH o3=true→E2 999999=some (.op l)∧w3.heap[l]?=some o3∧∀ o4,pH o4=true→cj c (ar ts (dN ρ osb++os0)) a1 (w3.putObj l o4):=fun o3 osb he h3=>by
   subst he
   have hn2:E2 999999=some (.op l):=by
    obtain ⟨e',h1,h2⟩:=hE2 1999999 (.op l) (by rw[←hEh];exact hEl) (by rw[lN];simp)
    rw[hρ] at h1
    rw[h1,h2.eq rfl]
   have eos:dN ρ (dE o3 osb)=(999999,.dK o3)::dN ρ osb:=by simp only[dE,dN,List.map_cons,hρ,ah.aR]
   rw[eos] at hs2
   have ha:(ar ts ((999999,ah.dK o3)::dN ρ osb++(999999,.dK (.loop (rec .ready none)))::os0)).o 999999=some (.dK o3):=by simp[ar,ak]
   have hgb:∀ m,aq osb m=true→bJ ρ m≠999999:=fun m hm e=>by
    have h5:aq (dE o3 osb) m=true:=by rw[lN,hm];simp
    have g5:fB os1 (dE o3 osb):=by
     rcases hp.2 with h | h
     ·exact ke _ _ h
     ·exact goodx _ h
    have h6:=hgv1.inj m 1999999 (by rw[←g5.same];exact h5) isrec (by rw[hρ];exact e)
    subst h6
    have h7:fB osb0 osb:=by
     rcases hp.2 with h | h
     ·rw[hI'] at h;obtain ⟨osb',h8,h9⟩:=h
      simp only[dE,List.cons.injEq] at h8
      rw[h8.2];exact hI _ _ h9
     ·rw[hIx'] at h;obtain ⟨e,osb',h8,h9⟩:=h
      simp only[dE,List.cons.injEq] at h8
      rw[h8.2];exact hIx _ _ h9
    rw[h7.same,h19] at hm;cases hm
   refine ⟨hn2,?_,fun o4 h4 =>?_⟩
   ·have ho:=hs2.bX 999999
    rw[ha] at ho
    obtain ⟨b,k1,_,k3,_⟩:=ho
    rw[hn2] at k1;cases k1;exact k3
   ·have h5:=(hs2.yX (o':=o4) ha hn2 h4).X3 hn2
    have hst:(⟨((ar ts ((999999,ah.dK o3)::dN ρ osb++(999999,.dK (.loop (rec .ready none)))::os0)).aM 999999 (.dK o4)).t,fun m=>if m=999999 then none else
      ((ar ts ((999999,ah.dK o3)::dN ρ osb++(999999,.dK (.loop (rec .ready none)))::os0)).aM 999999 (.dK o4)).o m⟩:ae)=ar ts (dN ρ osb++os0):=by
     simp only[ar,ae.aM]
     congr 1
     funext m
     by_cases hm:m=999999
     ·subst hm
      simp only[if_true,qT]
      cases hq:pre ρ osb 999999 with
      |none=>exact hfree.symm
      |some k=>exact absurd (lV hq).2 (hgb k (lV hq).1)
     ·simp only[if_neg hm,List.cons_append,ak,qT]
    rw[hst] at h5
    exact ⟨D2,_,h5⟩
  rcases hp.2 with h | h
  ·rw[hI'] at h
   obtain ⟨osb,he,hin⟩:=h
   obtain ⟨k1,k2,k3⟩:=key _ osb he rfl
   refine ⟨none,_,(by have:=run_endLoop (P:=c.P) k2 (by rw[hrec];simp);rw[hrec] at this;exact this),_,hdone osb hin,?_⟩
   have:=k3 (.loop { rec .ready none with state:=.exhausted }) rfl
   rw[ha1] at this
   rw[hrec] at this
   exact this
  ·rw[hIx'] at h
   obtain ⟨e,osb,he,hin⟩:=h
   obtain ⟨k1,k2,k3⟩:=key _ osb he rfl
   refine ⟨some (xM e),_,(by have:=run_endLoop (P:=c.P) k2 (by rw[hrec];simp);rw[hrec] at this;exact this),?_⟩
   have:=k3 (.loop { rec .done (some (xM e)) with state:=.exhausted }) rfl
   rw[ha1] at this
   rw[hrec] at this
   have hq:JN c Q (De e) { a with defers := { target:=.collected w.heap.size,args := #[] } :: a.defers } _:=⟨_,hexit e osb hin,this⟩
   cases e with
   |none=>exact wpIn_ret hq
   |some id=>exact wpIn_exit hq
end
mutual
theorem lW{ρ:Nat→Nat}(h:∀ n,ρ n=n):∀ x:I,x.aR ρ=x
 | .agg fs | .tuple fs=>by simp only[I.aR];rw[mN h fs]
 | .slice _ es=>by simp only[I.aR];rw[mN h es]
 | .ref x=>by simp only[I.aR];rw[lW h x]
 | .func _ caps=>by simp only[I.aR];rw[mN h caps]
 | .iface _ v=>by simp only[I.aR];rw[lW h v]
 | .ptr _ _ | .own _ _ | .view _ _ _ _ _ | .mref _ | .dx _=>by simp only[I.aR,h]
 | .cT ks vs=>by simp only[I.aR];rw[mN h ks,mN h vs]
 | .bool _ | .int _ _ | .cX _ | .nilp | .dj | .dR | .raw _ | .nils _ | .c0 _ | .undef | .c9=>by simp only[I.aR]
theorem mN{ρ:Nat→Nat}(h:∀ n,ρ n=n):∀ xs:List I,I.cW ρ xs=xs
 | []=>rfl
 |x::xs=>by simp only[I.cW];rw[lW h x,mN h xs]
end
theorem ah.lW{ρ:Nat→Nat}(h:∀ n,ρ n=n):∀ x:ah,x.aR ρ=x
 | .box x=>by simp only[ah.aR,Abs.lW h]
 | .bW _ _ es=>by simp only[ah.aR,mN h]
 | .dK _=>rfl
 | .cU _ _=>rfl
 | .cu _ _=>by simp only[ah.aR,mN h]
 | .it _ _ _ _=>by simp only[ah.aR,mN h]
theorem uh(os:List (Nat×ah)):dN [] os=os:=by
 simp only[dN]
 have:(fun q:Nat×ah=>(bJ [] q.1,q.2.aR (bJ [])))=id:=by
  funext q
  rw[ah.lW (ρ:=bJ []) (fun n=>rfl)];rfl
 rw[this,List.map_id]
theorem ki(a b:List (Nat×ah))(n:Nat):ak (a++b) n=match ak a n with
  |some x=>some x
  |none=>ak b n:=by
 induction a with
 |nil=>rfl
 |cons q a ih =>
  obtain ⟨k,v⟩:=q
  simp only[List.cons_append,ak]
  split
  ·rfl
  ·exact ih
theorem fB.none{os os':List (Nat×ah)}(h:fB os os'){n:Nat}(hn:n<1000000):ak os' n=none:=by
 cases hx:ak os' n with
 |none=>rfl
 |some x =>
  have h1:aq os' n=true:=by simp[aq,hx]
  rw[h.same] at h1
  exact absurd (h.oo n h1) (by omega)
theorem az.cJ{ts ts':List (Nat×I)}{os os':List (Nat×ah)}(h1:aT ts ts')(h2:∀ n,ak os n=ak os' n):az (ar ts os) (ar ts' os'):=by
 have e:ar ts os=ar ts os':=by
  simp only[ar];congr 1;funext n;exact h2 n
 rw[e]
 rintro c a w ⟨D,E,hs⟩
 refine ⟨D,E,hs.sz,hs.eM,fun t =>?_,hs.dO,hs.c6,hs.de,hs.bX,hs.cQ,hs.dQ,hs.eU,hs.cK,hs.eW,hs.fE⟩
 rcases zc h1 t with h | h
 ·simp only[ar];rw[h];simp[aW]
 ·have:=hs.dY t
  simp only[ar] at *
  rw[h];exact this
theorem Ag{os osk os2 ow:List (Nat×ah)}{ts:List (Nat×I)}(h1:fB os osk)(h2:fB os os2)(how:∀ m,aq ow m=true→m<1000000):ar ts (dN [] os2++(ow++osk))=ar ts (ow++os2):=by
 simp only[ar,uh]
 congr 1
 funext n
 simp only[ki]
 cases hw:ak ow n with
 |none =>
  simp only
  cases h3:ak os2 n with
  |some x=>rfl
  |none =>
   simp only
   cases h4:ak osk n with
   |none=>rfl
   |some x =>
    have h5:aq osk n=true:=by simp[aq,h4]
    rw[h1.same,←h2.same] at h5
    simp[aq,h3] at h5
 |some x =>
  simp only
  rw[h2.none (how n (by simp[aq,hw]))]
theorem gm.ke{os osk ow:List (Nat×ah)}(h1:fB os osk)(how:∀ m,aq ow m=true→m<1000000):gm [] osk (ow++osk):=by
 refine ⟨fun m x hx =>?_,fun m m' _ _ h=>h⟩
 have hm:aq osk m=true:=by simp[aq,hx]
 have hg:=h1.oo m (by rw[←h1.same];exact hm)
 obtain ⟨k1,k2⟩:=h1.ok m x hx
 refine ⟨?_,k1,k2⟩
 rw[ah.lW (ρ:=bJ []) (fun n=>rfl)]
 simp only[bJ,ki]
 cases hw:ak ow m with
 |none=>exact hx
 |some y=>have:=how m (by simp[aq,hw]);omega
theorem eC.ke{os osk os2 os0:List (Nat×ah)}{r:I}(h1:fB os osk)(h2:fB os os2)(hr:r.bt=true):eC false [] osk os0 r os2:=by
 refine ⟨fun m x hx=>⟨(h2.ok m x hx).1,(h2.ok m x hx).2,fun h=>by cases h⟩,fun m m' _ _ h=>h,fun m hm=>by rw[h2.same,←h1.same];exact hm,fun m h3 h4 =>?_,jS _ r hr,fun h=>by cases h⟩
 rw[h2.same,←h1.same,h4] at h3;cases h3
theorem bj.NU{P:Program}{Y:Value→List I→List (Nat×ah)→cV→Prop}{K:ae→Prop}{v:Value}{vs:List I}{dst:Option Nat}{rest:List aB}{ts:List (Nat×I)}{os osk ow:List (Nat×ah)}{In Ix:List (Nat×ah)→Prop}
  (hY:Y v vs osk (fun r os2=>(r=.bool true∧In os2)∨(r=.bool false∧Ix os2))) (hk:fB os osk) (hi:∀ os',In os'→fB os os') (hx:∀ os',Ix os'→fB os os') (hcl:I.bY vs=true) (how:∀ m,aq ow m=true→m<1000000)
  (h1:∀ os2,In os2→bj P Y false K (ay rest ((ar ts (ow++os2)).aO dst (.bool true)))) (h2:∀ os2,Ix os2→bj P Y false K (ay rest ((ar ts (ow++os2)).aO dst (.bool false)))) :
  bj P Y false K (.po v vs dst rest (ar ts (ow++osk))):=by
 refine .zj osk vs _ rfl hY (gm.ke hk how) (u9 vs hcl) ?_ ?_
 ·rintro r os' (⟨rfl,h⟩ | ⟨rfl,h⟩)
  ·exact eC.ke hk (hi _ h) rfl
  ·exact eC.ke hk (hx _ h) rfl
 ·rintro r os' (⟨rfl,h⟩ | ⟨rfl,h⟩)
  ·rw[Ag hk (hi _ h) how];exact h1 os' h
  ·rw[Ag hk (hx _ h) how];exact h2 os' h
theorem Cx(A:ae)(d:Option Nat)(args:List I)(rest:List aB)(v:Value):sq A d args rest (.raw v)=.po v args d rest A:=rfl
def jE(w:World):aP:=fun b _=>b<w.heap.size
structure fC (P:Program) (t:TypeId) (α:Type) [Enc α]:Prop where
 cells:P.cellsOf t=Enc.sz α
 KD:0<Enc.sz α
 lS:∀ {H:Type} {enc0:TypeId×Value→H} {w:World} {fuel:Nat} {cs:List Value} {x:DataW H×List MemPlace},DataW.trod enc0 P w 0 (fun _=>true) true fuel t cs=some x→∃ a:α,af w (jE w) du (enc a) cs
theorem akj{P:Program}{t:TypeId}(ht:P.underlying t=some (.int .i64))(hc:P.cellsOf t=1):fC P t Int :=
 ⟨hc,by decide,fun h=>by
  obtain ⟨n,rfl,_,hw⟩:=DataW.trod_int ht h
  refine ⟨n,?_⟩
  rw[iw,af]
  simp only[Lit.wf,Bool.and_eq_true,decide_eq_true_eq] at hw
  exact ⟨rfl,hw.1,hw.2⟩⟩
theorem CF{α:Type}[Enc α]{w:World}{D:aP}(c:Nat):∀ (n:Nat) (cs:List Value),cs.length=n*c→(∀ i,i<n→∃ a:α,af w D du (enc a) ((cs.drop (i*c)).take c))→∃ l:List α,l.length=n∧aG w D du (l.map enc) cs
 |0,cs,hl,_=>⟨[],rfl,by simp only[Nat.zero_mul,List.length_eq_zero_iff] at hl;subst hl;simp[aG]⟩
 |n+1,cs,hl,h=>by
  obtain ⟨a,ha⟩:=h 0 (by omega)
  simp only[Nat.zero_mul,List.drop_zero] at ha
  obtain ⟨l,h1,h2⟩:=CF c n (cs.drop c) (by rw[List.length_drop,hl,Nat.succ_mul];omega) (fun i hi=>by
   obtain ⟨b,hb⟩:=h (i+1) (by omega)
   refine ⟨b,?_⟩
   rw[List.drop_drop]
   rwa [Nat.succ_mul,Nat.add_comm] at hb)
  refine ⟨a::l,by simp[h1],?_⟩
  simp only[List.map_cons,aG]
  exact ⟨cs.take c,cs.drop c,(List.take_append_drop c cs).symm,ha,h2⟩
theorem al6{H:Type}{enc0:TypeId×Value→H}{P:Program}{w:World}{base:Nat}{spare:Nat→Bool}{held:Bool}{fuel n:Nat}{t e:TypeId}{cs:List Value}{x:DataW H×List MemPlace}(ht:P.underlying t=some (.array n e))(h:DataW.trod enc0 P w base spare held fuel t cs=some x) :
  ∃ (xs:List (DataW H×List MemPlace)) (m:Nat),cs.length=P.cellsOf t∧xs.length=n∧∀ (i:Nat),i<n→DataW.trod enc0 P w base spare held m e ((cs.drop (i*P.cellsOf e)).take (P.cellsOf e))=xs[i]?:=by
 cases fuel with
 |zero=>simp[DataW.trod] at h
 |succ m =>
  unfold DataW.trod at h
  rw[ht] at h
  split at h <;>simp_all
  obtain ⟨hl,xs,hp,hd⟩:=h
  exact ⟨xs,by simpa using mapM_some_length hp,m,fun i hi=>mapM_some_get hp i i (by simp[hi])⟩
theorem tU{P:Program}{t e:TypeId}{n:Nat}{α:Type}[Enc α](ht:P.underlying t=some (.array n e))(he:fC P e α)(hc:P.cellsOf t=n*Enc.sz α)(hn:0<n):fC P t (bA n α) :=
 ⟨hc,Nat.mul_pos hn he.KD,fun {H enc0 w fuel cs x} h=>by
  obtain ⟨xs,m,hl,hx,hp⟩:=al6 ht h
  obtain ⟨l,h1,h2⟩:=CF (α:=α) (w:=w) (D:=jE w) (Enc.sz α) n cs (by rw[hl,hc]) (fun i hi=>by
   have h3:=hp i hi
   rw[he.cells,List.getElem?_eq_getElem (by omega)] at h3
   exact he.lS h3)
  refine ⟨⟨l,h1⟩,?_⟩
  show af w (jE w) du (.agg (l.map enc)) cs
  simp only[af]
  exact h2⟩
theorem PI(a:Addr)(i j:Nat):(a.add i).add j=a.add (i+j):=by
 unfold Addr.add
 by_cases hi:i=0 <;>by_cases hj:j=0 <;>simp[hi,hj,Nat.add_assoc]
theorem Kq{P:Program}{t e:TypeId}{α:Type}[Enc α](ht:P.underlying t=some (.slice e))(he:fC P e α)(hc:P.cellsOf t=1):fC P t (List α) :=
 ⟨hc,by rw[qy];exact Nat.one_pos,fun {H enc0 w fuel cs x} h=>by
  rcases DataW.trod_slice ht h with ⟨rfl,_⟩ | ⟨a,len,cap,elems,rest,n,_,rfl,_,hb,hl,hm,hlen,hel,_⟩
  ·refine ⟨[],?_⟩
   simp only[ga,List.map_nil]
   rw[af]
   exact ⟨none,0,rfl,Nat.le_refl _,by decide,.inl rfl,by simp⟩
  ·have key:∀ k,k≤len→∃ (l:List α) (cs':List Value),l.length=k∧aG w (jE w) du (l.map enc) cs'∧cs'.length=k*Enc.sz α∧∀ j v,cs'[j]?=some v→w.cell? (a.add j)=some v:=by
    intro k
    induction k with
    |zero=>exact fun _=>⟨[],[],rfl,by simp[aG],by simp,by simp⟩
    |succ k ih =>
     intro hk
     obtain ⟨l,cs',h1,h2,h3,h4⟩:=ih (by omega)
     have h5:=hel k (by omega)
     have h6:k<elems.length:=by omega
     rw[List.getElem?_eq_getElem h6] at h5
     obtain ⟨ce,h7,h8⟩:=Option.bind_eq_some_iff.1 h5
     obtain ⟨y,hy⟩:=he.lS h8
     rw[he.cells] at h7
     obtain ⟨_,h9,h10⟩:=World.cells?_some h7
     refine ⟨l++[y],cs'++ce,by simp[h1],?_,by rw[List.length_append,h3,h9,Nat.succ_mul],fun j v hj =>?_⟩
     ·rw[List.map_append]
      refine kp _ _ _ _ h2 ?_
      simp only[List.map_cons,List.map_nil,aG]
      exact ⟨ce,[],by simp,hy,rfl⟩
     ·rcases Nat.lt_or_ge j cs'.length with hlt | hge
      ·rw[List.getElem?_append_left hlt] at hj
       exact h4 j v hj
      ·rw[List.getElem?_append_right hge] at hj
       have hlt:j-cs'.length<Enc.sz α:=by
        have:=(List.getElem?_eq_some_iff.1 hj).1
        omega
       have:=h10 (j-cs'.length) hlt
       rw[PI,←h3,Nat.add_sub_cancel' hge] at this
       rw[this];exact hj
   obtain ⟨l,cs',h1,h2,h3,h4⟩:=key len (Nat.le_refl _)
   refine ⟨l,?_⟩
   simp only[ga,af,List.length_map]
   refine ⟨some a,cap,by rw[h1],by omega,hm,?_,PS l⟩
   by_cases hz:len=0
   ·left;have:l=[]:=List.length_eq_zero_iff.1 (by omega);rw[this];rfl
   right
   have hpos:0<cs'.length:=by rw[h3];exact Nat.mul_pos (Nat.pos_of_ne_zero hz) he.KD
   have h0:=h4 0 cs'[0] (List.getElem?_eq_getElem hpos)
   have hsp:a.spot=none:=by
    simp only[Addr.add,if_true] at h0
    unfold World.cell? at h0
    split at h0
    ·split at h0
     ·cases h0
     ·rename_i hs;cases hh:a.spot <;>simp_all
    ·cases h0
   have ha:∀ j,a.add j=⟨a.block,a.off+j,none⟩:=fun j=>by
    unfold Addr.add
    split
    ·rename_i hj;subst hj;cases a;simp_all
    ·rfl
   refine ⟨a.block,a.off,cs',by cases a;simp_all,fun j v hj =>?_,h2⟩
   have h5:=h4 j v hj
   rw[ha] at h5
   refine ⟨h5,?_⟩
   show (⟨a.block,a.off+j,none⟩:Addr).block<_
   exact World.block_lt_of_cell? w _ h5⟩
end Go.Abs
namespace Go.Abs
open Go Go.RowKit Go.ChangeShapes
open Enc (enc)
def pI(P:Program)(t:TypeId)(l:List (TypeId×Nat)):Bool:=match P.underlying t with
 |some (.struct fs)=>fs.toList.map (fun f=>(f.type,f.offset))==l
 |_=>false
def Jx(P:Program)(t:TypeId)(n:Nat)(e:TypeId):Bool:=match P.underlying t with
 |some (.array n' e')=>n'==n&&e'==e
 |_=>false
theorem th{P:Program}{t:TypeId}{n:Nat}{e:TypeId}(h:Jx P t n e=true):P.underlying t=some (.array n e):=by
 unfold Jx at h
 split at h
 ·rename_i n' e' ht
  simp only[Bool.and_eq_true,beq_iff_eq] at h
  rw[ht,h.1,h.2]
 ·cases h
theorem aib{P:Program}{t:TypeId}{l:List (TypeId×Nat)}(h:pI P t l=true):∃ fs,P.underlying t=some (.struct fs)∧fs.toList.map (fun f=>(f.type,f.offset))=l:=by
 unfold pI at h
 split at h
 ·rename_i fs ht
  exact ⟨fs,ht,by simpa using h⟩
 ·cases h
theorem zb{H:Type}{enc0:TypeId×Value→H}{P:Program}{w:World}{fuel:Nat}{t:TypeId}{l:List (TypeId×Nat)}{cs:List Value}{x:DataW H×List MemPlace}(ht:pI P t l=true)(h:DataW.trod enc0 P w 0 (fun _=>true) true fuel t cs=some x) :
  cs.length=P.cellsOf t∧∃ m:Nat,∀ (i:Nat) (u:TypeId) (o:Nat),l[i]?=some (u,o)→∃ y,DataW.trod enc0 P w 0 (fun _=>true) true m u ((cs.drop o).take (P.cellsOf u))=some y:=by
 obtain ⟨fs,h1,h2⟩:=aib ht
 obtain ⟨xs,m,_,_,h3,h4,h5⟩:=DataW.trod_struct h1 h
 refine ⟨h3,m,fun i u o hi =>?_⟩
 rw[←h2] at hi
 simp only[List.getElem?_map,Option.map_eq_some_iff,Prod.mk.injEq] at hi
 obtain ⟨f,hf,rfl,rfl⟩:=hi
 have hf':fs[i]?=some f:=by simpa using hf
 have h6:=h5 i f hf'
 have hlt:i<fs.size:=(Array.getElem?_eq_some_iff.1 hf').1
 rw[List.getElem?_eq_getElem (by omega)] at h6
 exact ⟨_,h6⟩
section
variable {P:Program} {t:TypeId} {α β γ:Type} [Enc α] [Enc β] [Enc γ] {H:Type} {enc0:TypeId×Value→H} {w:World} {fuel:Nat} {cs:List Value} {x:DataW H×List MemPlace}
theorem Kr{u0 u1:TypeId}(ht:pI P t [(u0,0),(u1,Enc.sz α)]=true)(h0:fC P u0 α)(h1:fC P u1 β)(hc:P.cellsOf t=Enc.sz α+Enc.sz β)(h:DataW.trod enc0 P w 0 (fun _=>true) true fuel t cs=some x) :
  ∃ (a:α) (b:β),af w (jE w) du (.agg [enc a,enc b]) cs:=by
 obtain ⟨hl,m,hf⟩:=zb ht h
 obtain ⟨y0,k0⟩:=hf 0 u0 0 rfl
 obtain ⟨y1,k1⟩:=hf 1 u1 (Enc.sz α) rfl
 obtain ⟨a,ha⟩:=h0.lS k0
 obtain ⟨b,hb⟩:=h1.lS k1
 rw[h0.cells,List.drop_zero] at ha
 rw[h1.cells,List.take_of_length_le (by rw[List.length_drop];omega)] at hb
 refine ⟨a,b,?_⟩
 simp only[af,aG]
 exact ⟨_,_,(List.take_append_drop (Enc.sz α) cs).symm,ha,cs.drop (Enc.sz α),[],by simp,hb,rfl⟩
theorem akl{u0 u1 u2:TypeId}(ht:pI P t [(u0,0),(u1,Enc.sz α),(u2,Enc.sz α+Enc.sz β)]=true)(h0:fC P u0 α)(h1:fC P u1 β)(h2:fC P u2 γ)(hc:P.cellsOf t=Enc.sz α+Enc.sz β+Enc.sz γ)(h:DataW.trod enc0 P w 0 (fun _=>true) true fuel t cs=some x) :
  ∃ (a:α) (b:β) (c:γ),af w (jE w) du (.agg [enc a,enc b,enc c]) cs:=by
 obtain ⟨hl,m,hf⟩:=zb ht h
 obtain ⟨y0,k0⟩:=hf 0 u0 0 rfl
 obtain ⟨y1,k1⟩:=hf 1 u1 (Enc.sz α) rfl
 obtain ⟨y2,k2⟩:=hf 2 u2 (Enc.sz α+Enc.sz β) rfl
 obtain ⟨a,ha⟩:=h0.lS k0
 obtain ⟨b,hb⟩:=h1.lS k1
 obtain ⟨c,hcc⟩:=h2.lS k2
 rw[h0.cells,List.drop_zero] at ha
 rw[h1.cells] at hb
 rw[h2.cells,List.take_of_length_le (by rw[List.length_drop];omega)] at hcc
 refine ⟨a,b,c,?_⟩
 simp only[af,aG]
 refine ⟨_,_,(List.take_append_drop (Enc.sz α) cs).symm,ha,(cs.drop (Enc.sz α)).take (Enc.sz β),(cs.drop (Enc.sz α)).drop (Enc.sz β),(List.take_append_drop _ _).symm,hb,(cs.drop (Enc.sz α)).drop (Enc.sz β),[],by simp,?_,rfl⟩
 rw[List.drop_drop];exact hcc
theorem Kp{base:Nat}{v:Value}{d:DataW H}{p:List MemPlace}(ho:fC P t α)(hA:Enc.fV α=true)(hst:(match P.underlying t with | some (.struct _) | some (.array _ _)=>true | _=>false)=true)(hv:Value.okWide P w .any base t v)
  (h:DataW.Trod enc0 P w 0 (fun _=>true) true t v d p):∃ (a:α) (cs:List Value),bK (enc a) v cs∧af w (jE w) du (enc a) cs:=by
 obtain ⟨fuel,h⟩:=h
 have hagg:∃ cs,v=.agg cs:=by
  unfold Value.okWide at hv
  split at hst
  ·rename_i fs ht;rw[ht] at hv;obtain ⟨cs,h1,_⟩:=hv;exact ⟨cs,h1⟩
  ·rename_i n e ht;rw[ht] at hv;obtain ⟨cs,h1,_⟩:=hv;exact ⟨cs,h1⟩
  ·cases hst
 obtain ⟨cs,rfl⟩:=hagg
 have e:(Value.agg cs).cells.toList=cs.toList:=rfl
 rw[e] at h
 obtain ⟨a,ha⟩:=ho.lS h
 exact ⟨a,cs.toList,by simp[bK,Enc.agg,hA],ha⟩
theorem aki{base:Nat}{v:Value}{d:DataW H}{p:List MemPlace}(ho:fC P t α)(hA:Enc.fV α=false)(hst:(match P.underlying t with | some (.slice _) | some (.int _) | some .bool=>true | _=>false)=true)(hv:Value.okWide P w .any base t v)
  (h:DataW.Trod enc0 P w 0 (fun _=>true) true t v d p):∃ (a:α) (cs:List Value),bK (enc a) v cs∧af w (jE w) du (enc a) cs:=by
 obtain ⟨fuel,h⟩:=h
 have hone:v.cells.toList=[v]:=by
  unfold Value.okWide at hv
  split at hst
  ·rename_i e ht;rw[ht] at hv;simp only[Cell.okWide,ht] at hv;cases v <;>simp_all[Cell.ok,Value.cells]
  ·rename_i e ht;rw[ht] at hv;simp only[Cell.okWide,ht] at hv;cases v <;>simp_all[Cell.ok,Value.cells]
  ·rename_i ht;rw[ht] at hv;simp only[Cell.okWide,ht] at hv;cases v <;>simp_all[Cell.ok,Value.cells]
  ·cases hst
 rw[hone] at h
 obtain ⟨a,ha⟩:=ho.lS h
 exact ⟨a,[v],by simp[bK,Enc.agg,hA],ha⟩
end
theorem akG{H:Type}{enc0:TypeId×Value→H}{P:Program}{f:Func}{s:ChangeSpec}{apart kd handsOn again:Bool}{W W':World}{args:Array Value}{v:Value}{ds gs:List (DataW H)}{before pa pv:List MemPlace}
  (hW:DataW.Whole enc0 P f.params.toList s.vars apart W args.toList ds gs before)
  (hres:∀ (b:Nat) (sp:Nat→Bool) (hd:Bool),DataW.TrodAll enc0 P W' b sp hd f.resultTypes.toList (v.resultList f.resultTypes.size) (s.fn H (ds++gs)).results [])
  (hargs:∀ sp:Nat→Bool,(∀ p∈before,sp p.block=true)→DataW.TrodAll enc0 P W' 0 sp true f.params.toList args.toList (s.fn H (ds++gs)).args pa)
  (hvars:∀ sp:Nat→Bool,(∀ p∈before,sp p.block=true)→DataW.TrodVars enc0 P W' sp s.vars (s.fn H (ds++gs)).vars pv)
  (hps:before=pa++pv) (hb:Below W.heap.size W W')
  (hok:∀ (j:Nat) (t:TypeId) (r:Value),f.resultTypes[j]?=some t→(v.resultList f.resultTypes.size)[j]?=some r→Value.okWide P W' .any 0 t r) :
  s.post enc0 P f apart kd handsOn again W args v W':=by
 have hlt:∀ p∈before,p.block<W.heap.size:=fun p hp=>by simpa using hW.lt p hp
 have hold:∀ p∈before,(fun b=>decide (b<W.heap.size)) p.block=true:=fun p hp=>by simpa using hlt p hp
 refine ⟨ds,gs,before,[],pa,pv,hW,hres _ _ _,hargs _ hold,hvars _ hold,World.keptBut_mono (fun p hp=>⟨hp,?_⟩) (hb.frame (· ∈ before)),fun _ =>?_⟩
 ·rw[hps,List.mem_append] at hp
  exact Or.inr hp
 ·obtain ⟨_,_,_,_,_,hz,hn⟩:=hW
  refine ⟨hok,_,_,([]++pa)++pv,⟨[]++pa,pv,trodAll_append (hargs _ (fun _ _=>rfl)) (hres _ _ _),hvars _ (fun _ _=>rfl),rfl,?_,?_⟩,?_⟩
  ·intro b off hp
   have hp':MemPlace.cell b off∈before:=by rw[hps];simpa using hp
   rw[hb.frozen (p:=⟨b,off,none⟩) (hlt _ hp')]
   exact hz b off hp'
  ·intro ha
   have:=hn ha
   rw[hps] at this
   simpa using this
  ·intro p hp _
   rw[hps]
   simpa using hp
theorem aiw{P:Program}{f:FuncId}{fn:Func}{s:ChangeSpec}{H:Type}{enc0:TypeId×Value→H}{W:World}{ds gs:List (DataW H)}{before:List MemPlace}{xs:List I}{tb:TypeId}{v0 v1 v2:Value}{t0 t1 t2:TypeId}{d0 d1 d2:DataW H}{p0 p1 p2:List MemPlace}{again handsOn kd:Bool}
  (hl:laidOutB P=true) (hpar:fn.params.toList=[t0,t1,t2]) (hds:ds=[d0,d1,d2]) (hgs:gs=[]) (hbef:before=p0++p1++p2)
  (hvars:s.vars=[]) (hfn:s.fn H [d0,d1,d2] = { results:=[.lit (.bool true)],args:=[d0,d1,d2] }) (hres:fn.resultTypes = #[tb]) (htb:P.underlying tb=some .bool)
  (hW:DataW.Whole enc0 P fn.params.toList s.vars false W #[v0,v1,v2].toList ds gs before)
  (h0:DataW.Trod enc0 P W 0 (fun _=>true) true t0 v0 d0 p0) (h1:DataW.Trod enc0 P W 0 (fun _=>true) true t1 v1 d1 p1) (h2:DataW.Trod enc0 P W 0 (fun _=>true) true t2 v2 d2 p2)
  (hr:∀ t∈[t0,t1,t2],P.readableRec t=true∧t<P.types.size)
  (hctr:aw P f xs (enc true)) (hv:aF W (jE W) du xs [v0,v1,v2]) :
  Calls P f #[v0,v1,v2] W fun e W'=>∃ v,e=.returned v∧s.post enc0 P fn false kd handsOn again W #[v0,v1,v2] v W':=by
 subst hds hgs
 refine (hctr.2 W (jE W) [v0,v1,v2] (fun _ _ h=>h) hv).mono fun e W' ⟨v,D',he,hrv,hb,_,_⟩=>⟨v,he,?_⟩
 have hvb:v=.bool true:=lZ hrv
 subst hvb
 have hlt:∀ x∈before,x.block<W.heap.size:=fun x hx=>by simpa using hW.lt x hx
 rw[hbef] at hlt
 refine akG (pa:=p0++(p1++p2)) (pv:=[]) hW (fun _ _ _ =>?_) (fun sp hsp =>?_) (fun _ _ =>?_) (by rw[hbef];simp) hb ?_
 ·simp only[List.append_nil,hfn,hres]
  exact trodAll_mk1 (shut_bool htb true)
 ·simp only[List.append_nil,hfn,hpar]
  rw[hbef] at hsp
  have bl:∀ {t:TypeId} {v:Value} {d:DataW H} {p:List MemPlace},t∈[t0,t1,t2]→DataW.Trod enc0 P W 0 (fun _=>true) true t v d p→(∀ x∈p,x∈p0++p1++p2)→DataW.Trod enc0 P W' 0 sp true t v d p:=fun ht h hp =>
   WideElems.Trod_stays hl (hr _ ht).1 (hr _ ht).2 h (fun x hx=>hb.same (hlt x (hp x hx))) (fun x hx=>hsp x (hp x hx))
  exact trodAll_mk3 (bl (by simp) h0 fun x hx=>by simp[hx]) (bl (by simp) h1 fun x hx=>by simp[hx]) (bl (by simp) h2 fun x hx=>by simp[hx])
 ·simp only[List.append_nil,hfn,hvars]
  rfl
 ·intro j t r hj hv'
  rw[hres] at hj hv'
  match j,hj,hv' with
  |0,hj,hv' =>
   simp[Value.resultList] at hj hv'
   subst hj;subst hv'
   simp[Value.okWide,htb,Cell.okWide,Cell.ok]
def zO(P:Program)(u:TypeId)(n:Nat)(S:I→Prop):Prop:=P.cellsOf u=n ∧
 ∀ {H:Type} {enc0:TypeId×Value→H} {w:World} {fuel:Nat} {cs:List Value} {x:DataW H×List MemPlace},DataW.trod enc0 P w 0 (fun _=>true) true fuel u cs=some x→∃ v,S v∧af w (jE w) du v cs
theorem fC.bC{P:Program}{u:TypeId}{α:Type}[Enc α](h:fC P u α):zO P u (Enc.sz α) fun v=>∃ a:α,v=enc a :=
 ⟨h.cells,fun hx=>by obtain ⟨a,ha⟩:=h.lS hx;exact ⟨enc a,⟨a,rfl⟩,ha⟩⟩
def qY(P:Program):Nat→List (TypeId×Nat)→List (Nat×(I→Prop))→Prop
 |_,[],[]=>True
 |o,(u,off)::l,(n,S)::Ss=>off=o∧zO P u n S∧qY P (o+n) l Ss
 |_,_,_=>False
def o9:List (Nat×(I→Prop))→List I→Prop
 | [],[]=>True
 |(_,S)::Ss,v::vs=>S v∧o9 Ss vs
 |_,_=>False
theorem lp{n:Nat}{S:I→Prop}{Ss:List (Nat×(I→Prop))} : ∀ {vs:List I},o9 ((n,S)::Ss) vs→∃ v vs',vs=v::vs'∧S v∧o9 Ss vs'
 | [],h=>h.elim
 |v::vs,h=>⟨v,vs,rfl,h.1,h.2⟩
theorem PQ:∀ {vs:List I},o9 [] vs→vs=[]
 | [],_=>rfl
 |_::_,h=>h.elim
def rH:List (Nat×(I→Prop))→Nat
 | []=>0
 |(n,_)::Ss=>n+rH Ss
theorem Dk{P:Program}{H:Type}{enc0:TypeId×Value→H}{w:World}{m:Nat}{cs:List Value} : ∀ (l:List (TypeId×Nat)) (Ss:List (Nat×(I→Prop))) (o:Nat),qY P o l Ss→cs.length=o+rH Ss →
  (∀ (i:Nat) (u:TypeId) (off:Nat),l[i]?=some (u,off)→∃ y,DataW.trod enc0 P w 0 (fun _=>true) true m u ((cs.drop off).take (P.cellsOf u))=some y)→∃ vs,o9 Ss vs∧aG w (jE w) du vs (cs.drop o)
 | [],[],o,_,hl,_=>⟨[],trivial,by simp only[aG];exact List.drop_eq_nil_of_le (by simp only[rH] at hl;omega)⟩
 |(u,off)::l,(n,S)::Ss,o,h,hl,hf=>by
  obtain ⟨rfl,h2,h3⟩:=h
  obtain ⟨y,hy⟩:=hf 0 u off rfl
  obtain ⟨v,hv1,hv2⟩:=h2.2 hy
  obtain ⟨vs,k1,k2⟩:=Dk l Ss (off+n) h3 (by simp only[rH] at hl;omega) fun i u' o' hi=>hf (i+1) u' o' hi
  refine ⟨v::vs,⟨hv1,k1⟩,?_⟩
  simp only[aG]
  rw[h2.1] at hv2
  exact ⟨_,(cs.drop off).drop n,(List.take_append_drop n _).symm,hv2,by rw[List.drop_drop];exact k2⟩
 | [],_::_,_,h,_,_=>h.elim
 |_::_,[],_,h,_,_=>by simp[qY] at h
theorem akk{P:Program}{t:TypeId}{H:Type}{enc0:TypeId×Value→H}{w:World}{fuel:Nat}{cs:List Value}{x:DataW H×List MemPlace}(l:List (TypeId×Nat))(Ss:List (Nat×(I→Prop)))(ht:pI P t l=true)(hok:qY P 0 l Ss)(hc:P.cellsOf t=rH Ss)(h:DataW.trod enc0 P w 0 (fun _=>true) true fuel t cs=some x) :
  ∃ vs,o9 Ss vs∧af w (jE w) du (.agg vs) cs:=by
 obtain ⟨hl,m,hf⟩:=zb ht h
 obtain ⟨vs,k1,k2⟩:=Dk l Ss 0 hok (by rw[hl,hc];omega) hf
 exact ⟨vs,k1,by simpa only[af,List.drop_zero] using k2⟩
end Go.Abs
namespace Go.Abs.C
open Go Go.Abs
abbrev o(a:Nat)(x:b6):aB:=⟨some a,x,none⟩
abbrev aZ(a:Nat)(x:b6)(k:Nat):aB:=⟨some a,x,some (k,true)⟩
abbrev on(a:Nat)(x:b6)(k:Nat):aB:=⟨some a,x,some (k,false)⟩
abbrev p(x:b6):aB:=⟨none,x,none⟩
abbrev ai(n:Int):aK:=.c (.int .i64 n)
abbrev T:aK:=.c (.bool true)
abbrev bh:aK:=.c (.bool false)
abbrev m(a b:Nat):aB:=⟨some a,.mv (.t b),none⟩
abbrev cg(a b k:Nat):aB:=⟨some a,.mv (.t b),some (k,true)⟩
abbrev eb(a b k:Nat):aB:=⟨some a,.mv (.t b),some (k,false)⟩
abbrev aV(a:Nat)(n:Int):aB:=⟨some a,.mv (.c (.int .i64 n)),none⟩
abbrev l(a b:Nat):aB:=⟨some a,.ld none (.t b),none⟩
abbrev cF(a b k:Nat):aB:=⟨some a,.ld none (.t b),some (k,true)⟩
abbrev eO(a b k:Nat):aB:=⟨some a,.ld none (.t b),some (k,false)⟩
abbrev L(a s b:Nat):aB:=⟨some a,.ld (some s) (.t b),none⟩
abbrev f(a b c d:Nat):aB:=⟨some a,.fa b c (.t d),none⟩
abbrev cB(a b c d k:Nat):aB:=⟨some a,.fa b c (.t d),some (k,true)⟩
abbrev fn(a b c d k:Nat):aB:=⟨some a,.fa b c (.t d),some (k,false)⟩
abbrev ad(a b:Nat)(n:Int):aB:=⟨some a,.bin .add (.t b) (.c (.int .i64 n)),none⟩
abbrev lt(a b c:Nat):aB:=⟨some a,.bin .lss (.t b) (.t c),none⟩
abbrev and(a b c:Nat):aB:=⟨some a,.pick (.t b) (.t c) (.c (.bool false)),none⟩
abbrev or(a b c:Nat):aB:=⟨some a,.pick (.t b) (.c (.bool true)) (.t c),none⟩
abbrev no(a b:Nat):aB:=⟨some a,.un .not (.t b),none⟩
abbrev b(a c:Nat):aB:=⟨some a,.box (.t c),none⟩
abbrev s(x y:aN):aN:=.seq x y
abbrev r(g:List aB):aN:=.bT none g
abbrev bF(P:Program)(f:Func)(c:aN):Prop:=f.body.bind (eX P f.ntmps)=some c
abbrev bG(P:Program)(f:Func)(r:List aY):Prop:=iP P f.results.toList=some r
abbrev bE(P:Program)(n:FuncId):Prop:=gS P n=true
theorem e{α:Type}{a b:α}(h:a=b):a=b:=h
end Go.Abs.C
namespace Go.Proofs.YtcldiigclhgafaaGreat
open Go Go.Abs Go.Abs.C
def ad9:=[b 3 0,b 5 2,o 6 (.mv bh)]
def aea:=[L 20 7 3,m 21 1,o 22 (.ia 2 1 (.t 5) (ai 0)),l 23 22,o 24 (.ia 2 1 (.t 5) (ai 1)),l 25 24,o 26 (.call 14 [.t 20,.t 21,.t 23,.t 25]),m 19 26,o 27 (.ext (.t 19) 0),o 28 (.ext (.t 19) 1),m 7 27,m 8 28]
def aeb:=[L 30 7 3,m 31 1,L 32 2 5,o 33 (.call 15 [.t 30,.t 31,.t 32]),m 29 33,o 34 (.ext (.t 29) 0),o 35 (.ext (.t 29) 1),m 9 34,m 10 35]
def aec:=[L 37 7 3,m 38 1,o 39 (.ia 2 1 (.t 5) (ai 1)),l 40 39,o 41 (.call 16 [.t 37,.t 38,.t 40]),m 36 41,o 42 (.ext (.t 36) 0),o 43 (.ext (.t 36) 1),m 11 42,m 12 43]
def aed:=[L 45 7 3,m 46 1,o 47 (.ia 2 1 (.t 5) (ai 1)),l 48 47,o 49 (.call 17 [.t 45,.t 46,.t 48]),m 44 49,o 50 (.ext (.t 44) 0),o 51 (.ext (.t 44) 1),m 13 50,m 14 51]
def aee:=[L 53 7 3,m 54 1,o 55 (.ia 2 1 (.t 5) (ai 0)),l 56 55,o 57 (.ia 2 1 (.t 5) (ai 1)),l 58 57,o 59 (.call 18 [.t 53,.t 54,.t 56,.t 58]),m 52 59,o 60 (.ext (.t 52) 0),o 61 (.ext (.t 52) 1),m 15 60,m 16 61]
def aef:=[L 63 7 3,m 64 1,L 65 2 5,o 66 (.call 19 [.t 63,.t 64,.t 65]),m 62 66,o 67 (.ext (.t 62) 0),o 68 (.ext (.t 62) 1),m 17 67,m 18 68]
def aeg:=[m 69 7,m 70 9,o 71 (.call 20 [.t 69,.t 70]),m 72 71,cg 73 8 72,cg 74 10 72,aZ 75 (.bin .eql (.t 73) (.t 74)) 72,and 76 72 75,m 77 76,cg 78 11 77,cg 79 13 77,aZ 80 (.call 20 [.t 78,.t 79]) 77,and 81 77 80,m 82 81,cg 83 12 82,cg 84 14 82,aZ 85 (.bin .eql (.t 83) (.t 84)) 82,and 86 82 85,m 87 86,cg 88 15 87,cg 89 17 87,aZ 90 (.call 21 [.t 88,.t 89]) 87,and 91 87 90,m 92 91,cg 93 16 92,cg 94 18 92,aZ 95 (.bin .eql (.t 93) (.t 94)) 92,and 96 92 95,m 97 96,aZ 98 (.call 22 []) 97,and 99 97 98,m 6 99]
def c3:aN:=(s (r ad9) (s (r aea) (s (r aeb) (s (r aec) (s (r aed) (s (r aee) (s (r aef) (s (r aeg) .ret))))))))
def oI:List aY:=[.tmp 6]
theorem T6:bF Tryz.prog Tryz.f3 c3:=e (by kernel_rfl)
theorem Wd:bG Tryz.prog Tryz.f3 oI:=e (by kernel_rfl)
theorem R5:bE Tryz.prog 3:=e (by kernel_rfl)
def aaF:=[b 4 0,o 8 (.mv (.c (.nils 1))),aV 9 0]
def aaG:=[L 13 7 4,o 14 (.call 66 [.t 13]),m 10 14]
def aaI:=[m 15 10,o 16 (.bin .neq (.t 15) (ai 0))]
def aaJ:=[m 17 10,o 8 (.mv (.c (.nils 1))),m 9 17]
def aaK:=[m 18 1,m 19 2,o 20 (.bld [.int .i64 0,.int .i64 0] [(0,(.t 19)),(1,(ai 9999))]),o 21 (.bs 2 [.t 20]),m 22 3,o 23 (.bs 1 [.t 22]),o 24 (.call 67 [.t 18,.t 21,.t 23]),m 11 24]
def aaL:=[m 25 11,o 26 (.bin .neq (.t 25) (ai 0))]
def aaM:=[m 27 11,o 8 (.mv (.c (.nils 1))),m 9 27]
def aaN:=[m 28 1,m 29 3,o 30 (.call 68 [.t 28,.t 29]),o 31 (.nilC (.t 30)),f 32 0 0 31,l 33 32,m 34 2,o 35 (.lk (.i .i64) (.nilp) false (.t 33) (.t 34)),m 12 35]
def aaO:=[m 36 12,o 37 (.ptrE false (.t 36) (.c (.nilp)))]
def aaP:=[o 8 (.mv (.c (.nils 1))),aV 9 42]
def aaH:=[L 38 7 4,m 39 12,o 40 (.call 69 [.t 38,.t 39]),m 8 40,aV 9 0]
def AU:aN:=(s (r aaF) (s (s (r aaG) (s (r aaI) (.cond (.t 16) (s (r aaJ) .ret) .skip))) (s (s (r aaK) (s (r aaL) (.cond (.t 26) (s (r aaM) .ret) .skip))) (s (r aaN) (s (s (r aaO) (.cond (.t 37) (s (r aaP) .ret) .skip)) (s (r aaH) .ret))))))
def Lb:List aY:=[.tmp 8,.tmp 9]
theorem Tc:bF Tryz.prog Tryz.f14 AU:=e (by kernel_rfl)
theorem Vm:bG Tryz.prog Tryz.f14 Lb:=e (by kernel_rfl)
theorem Rg:bE Tryz.prog 14:=e (by kernel_rfl)
def aaU:=[b 3 0,b 5 2,o 6 (.mv (.c (.nils 1))),aV 7 0]
def aaV:=[L 10 7 3,o 11 (.call 70 [.t 10]),o 12 (.bin .neq (.t 11) (ai 0))]
def aaW:=[o 6 (.mv (.c (.nils 1))),aV 7 13]
def aaX:=[m 14 1,o 15 (.ia 2 1 (.t 5) (ai 0)),l 16 15,o 17 (.ia 2 1 (.t 5) (ai 1)),l 18 17,o 19 (.call 46 [.t 14,.t 16,.t 18]),m 13 19,o 20 (.ext (.t 13) 0),o 21 (.ext (.t 13) 1),o 8 (.alloc (.agg [.int .i64 0,.int .i64 0,.int .i64 0,.int .i64 0,.int .i64 0,.int .i64 0,.int .i64 0,.bool false,.nils 6])),p (.bl (some 9) (.t 8) (.t 20)),m 9 21]
def aaY:=[m 22 9,o 23 (.bin .neq (.t 22) (ai 0))]
def aaZ:=[m 24 9,o 6 (.mv (.c (.nils 1))),m 7 24]
def aa0:=[L 25 7 3,L 26 9 8,o 27 (.call 71 [.t 25,.t 26]),m 6 27,aV 7 0]
def AZ:aN:=(s (r aaU) (s (s (r aaV) (.cond (.t 12) (s (r aaW) .ret) .skip)) (s (r aaX) (s (s (r aaY) (.cond (.t 23) (s (r aaZ) .ret) .skip)) (s (r aa0) .ret)))))
def Lg:List aY:=[.tmp 6,.tmp 7]
theorem Th:bF Tryz.prog Tryz.f15 AZ:=e (by kernel_rfl)
theorem Vr:bG Tryz.prog Tryz.f15 Lg:=e (by kernel_rfl)
theorem Rk:bE Tryz.prog 15:=e (by kernel_rfl)
def aa1:=[b 3 0,o 6 (.mv (.c (.nils 1))),aV 7 0]
def aa2:=[L 10 7 3,o 11 (.call 66 [.t 10]),m 8 11]
def aa3:=[m 12 8,o 13 (.bin .neq (.t 12) (ai 0))]
def aa4:=[m 14 8,o 6 (.mv (.c (.nils 1))),m 7 14]
def aa5:=[m 15 1,m 16 2,o 17 (.bs 1 [.t 16]),o 18 (.call 67 [.t 15,(.c (.nils 2)),.t 17]),m 9 18]
def aa6:=[m 19 9,o 20 (.bin .neq (.t 19) (ai 0))]
def aa7:=[m 21 9,o 6 (.mv (.c (.nils 1))),m 7 21]
def aa8:=[m 22 1,m 23 2,o 24 (.call 68 [.t 22,.t 23]),o 25 (.mk 73 [.t 3]),o 26 (.call 72 [.t 24,.t 25]),m 6 26,aV 7 0]
def Ba:aN:=(s (r aa1) (s (s (r aa2) (s (r aa3) (.cond (.t 13) (s (r aa4) .ret) .skip))) (s (s (r aa5) (s (r aa6) (.cond (.t 20) (s (r aa7) .ret) .skip))) (s (r aa8) .ret))))
def Ln:List aY:=[.tmp 6,.tmp 7]
theorem Tp:bF Tryz.prog Tryz.f16 Ba:=e (by kernel_rfl)
theorem Vy:bG Tryz.prog Tryz.f16 Ln:=e (by kernel_rfl)
theorem Rr:bE Tryz.prog 16:=e (by kernel_rfl)
def ab5:=[b 3 0,o 6 (.mv (.c (.nils 1))),aV 7 0]
def ab6:=[L 12 7 3,o 13 (.call 70 [.t 12]),o 14 (.bin .neq (.t 13) (ai 0))]
def ace:=[o 6 (.mv (.c (.nils 1))),aV 7 13]
def acf:=[m 15 1,o 16 (.call 65 [.t 15]),o 17 (.bin .neq (.t 16) (ai 0))]
def acg:=[o 6 (.mv (.c (.nils 1))),aV 7 41]
def ach:=[m 18 2,o 19 (.call 75 [.t 18]),no 20 19]
def aci:=[o 6 (.mv (.c (.nils 1))),aV 7 6]
def acj:=[m 21 1,m 22 2,o 23 (.call 76 [.t 21,.t 22,(ai 100000)]),o 8 (.alloc (.agg [.nils 9,.nils 1])),p (.bl (some 2) (.t 8) (.t 23))]
def ack:=[o 9 (.mv (.c (.nils 1)))]
def acm:=[aV 10 0]
def ab7:=[m 24 10,f 25 0 0 8,l 26 25,o 27 (.len (.t 26)),lt 28 24 27]
def ab8:=[f 31 0 0 8,l 32 31,m 33 10,o 34 (.is 9 (.t 32) (.t 33)),L 35 9 34,o 11 (.alloc (.agg [.int .i64 0,.int .i64 0,.int .i64 0,.int .i64 0,.int .i64 0,.int .i64 0,.int .i64 0,.bool false,.nils 6])),p (.bl (some 9) (.t 11) (.t 35))]
def ab9:=[f 36 4 4 11,l 37 36,o 38 (.bin .neq (.t 37) (ai 0)),m 39 38,aZ 40 (.ld (some 7) (.t 3)) 39,aZ 41 (.ld (some 9) (.t 11)) 39,aZ 42 (.call 71 [.t 40,.t 41]) 39,cB 43 4 4 11 39,cF 44 43 39,aZ 45 (.call 36 [.t 42,.t 44]) 39,aZ 46 (.un .not (.t 45)) 39,and 47 39 46]
def Xf:=some [[],[0],[1],[2],[3],[3],[4,5,3,3],[3],[7,3],[6,8,6,3],[9,3],[3,10]]
def aca:=[m 48 9,f 49 0 0 11,l 50 49,o 51 (.bs 1 [.t 50]),o 52 (.cS 3 1 8 (.int .i64 0) (.t 48) (.t 51)),m 9 52]
def acb:=[m 29 10,ad 30 29 1,m 10 30]
def acd:=[m 53 9,m 6 53,aV 7 0]
def Bl:aN:=(s (r ab5) (s (s (r ab6) (.cond (.t 14) (s (r ace) .ret) .skip)) (s (s (r acf) (.cond (.t 17) (s (r acg) .ret) .skip)) (s (s (r ach) (.cond (.t 20) (s (r aci) .ret) .skip)) (s (r acj) (s (r ack) (s (s (r acm) (.block 0 (.loop (s (s (r ab7) (.cond (.t 28) .skip (.exit 0))) (s (.block 1 (s (r ab8) (s (.bT Xf ab9) (.cond (.t 47) (r aca) .skip)))) (r acb)))))) (s (r acd) .ret))))))))
def Ly:List aY:=[.tmp 6,.tmp 7]
theorem TA:bF Tryz.prog Tryz.f17 Bl:=e (by kernel_rfl)
theorem VJ:bG Tryz.prog Tryz.f17 Ly:=e (by kernel_rfl)
theorem RC:bE Tryz.prog 17:=e (by kernel_rfl)
def acn:=[b 4 0,o 8 (.mv (.c (.nils 2))),aV 9 0]
def aco:=[L 17 7 4,m 18 1,m 19 2,m 20 3,o 21 (.call 14 [.t 17,.t 18,.t 19,.t 20]),m 16 21,o 22 (.ext (.t 16) 0),o 23 (.ext (.t 16) 1),m 10 22,m 11 23]
def acs:=[m 24 11,o 25 (.bin .neq (.t 24) (ai 0))]
def acu:=[m 26 11,o 8 (.mv (.c (.nils 2))),m 9 26]
def acv:=[m 27 1,m 28 3,o 29 (.call 68 [.t 27,.t 28]),o 30 (.nilC (.t 29)),f 31 0 0 30,l 32 31,m 33 2,o 34 (.lk (.i .i64) (.nilp) false (.t 32) (.t 33)),m 12 34]
def acw:=[o 13 (.mv (.c (.nils 2)))]
def acx:=[m 35 1,o 36 (.len (.t 35)),aV 37 0]
def acy:=[lt 38 37 36]
def acz:=[m 39 37,o 40 (.is 17 (.t 35) (.t 37)),L 41 17 40,o 15 (.alloc (.agg [.agg [.int .i64 0,.int .i64 0],.int .i64 0,.int .i64 0,.int .i64 0,.int .i64 0,.int .i64 0,.int .i64 0,.int .i64 0,.agg [.int .i64 0,.int .i64 0,.int .i64 0,.int .i64 0,.int .i64 0,.int .i64 0],.agg [.int .i64 0,.int .i64 0]])),m 14 39,p (.bl (some 17) (.t 15) (.t 41))]
def acA:=[L 42 7 4,m 43 12,m 44 1,m 45 14,o 46 (.call 78 [.t 44,.t 45]),m 47 3,o 48 (.call 68 [.t 46,.t 47]),o 49 (.nilC (.t 48)),f 50 0 0 49,l 51 50,m 52 2,o 53 (.lk (.i .i64) (.nilp) false (.t 51) (.t 52)),o 54 (.call 77 [.t 42,.t 43,.t 53]),no 55 54]
def Xg:=some [[],[],[],[],[2,3],[],[4,5,4],[6],[7],[8],[],[9,10],[0,1,11,6],[12]]
def acp:=[m 56 13,f 57 0 0 15,L 58 2 57,o 59 (.bs 2 [.t 58]),o 60 (.cS 65 2 16 (.agg [.int .i64 0,.int .i64 0]) (.t 56) (.t 59)),m 13 60]
def acq:=[ad 61 37 1,m 37 61]
def acr:=[m 62 13,m 8 62,aV 9 0]
def Bv:aN:=(s (r acn) (s (s (r aco) (s (r acs) (.cond (.t 25) (s (r acu) .ret) .skip))) (s (r acv) (s (r acw) (s (s (r acx) (.block 0 (.loop (s (r acy) (s (.cond (.t 38) .skip (.exit 0)) (s (.block 1 (s (r acz) (s (.bT Xg acA) (.cond (.t 55) (r acp) .skip)))) (r acq))))))) (s (r acr) .ret))))))
def LI:List aY:=[.tmp 8,.tmp 9]
theorem TJ:bF Tryz.prog Tryz.f18 Bv:=e (by kernel_rfl)
theorem VS:bG Tryz.prog Tryz.f18 LI:=e (by kernel_rfl)
theorem RK:bE Tryz.prog 18:=e (by kernel_rfl)
def acB:=[b 3 0,b 5 2,o 6 (.mv (.c (.nils 2))),aV 7 0]
def acC:=[L 14 7 3,m 15 1,L 16 2 5,o 17 (.call 15 [.t 14,.t 15,.t 16]),m 13 17,o 18 (.ext (.t 13) 0),o 19 (.ext (.t 13) 1),m 8 18,m 9 19]
def acF:=[m 20 9,o 21 (.bin .neq (.t 20) (ai 0))]
def acG:=[m 22 9,o 6 (.mv (.c (.nils 2))),m 7 22]
def acH:=[m 23 1,o 24 (.ia 2 1 (.t 5) (ai 1)),l 25 24,o 26 (.call 76 [.t 23,.t 25,(ai 100000)]),o 10 (.alloc (.agg [.nils 9,.nils 1])),p (.bl (some 2) (.t 10) (.t 26))]
def acI:=[o 11 (.mv (.c (.nils 2)))]
def acJ:=[aV 12 0]
def acK:=[m 27 12,m 28 1,o 29 (.len (.t 28)),lt 30 27 29]
def acL:=[L 33 7 3,L 34 2 10,m 35 1,m 36 12,o 37 (.call 80 [.t 35,.t 36]),o 38 (.ia 2 1 (.t 5) (ai 1)),l 39 38,o 40 (.call 76 [.t 37,.t 39,(ai 100000)]),o 41 (.ia 2 1 (.t 5) (ai 0)),l 42 41,o 43 (.call 79 [.t 33,.t 34,.t 40,.t 42]),no 44 43]
def Xi:=some [[],[],[],[],[2,3],[],[5],[4,6,4],[],[8],[0,1,7,9,7],[10]]
def acM:=[m 45 11,m 46 1,m 47 12,o 48 (.is 17 (.t 46) (.t 47)),f 49 0 0 48,L 50 2 49,o 51 (.bs 2 [.t 50]),o 52 (.cS 65 2 16 (.agg [.int .i64 0,.int .i64 0]) (.t 45) (.t 51)),m 11 52]
def acD:=[m 31 12,ad 32 31 1,m 12 32]
def acE:=[m 53 11,m 6 53,aV 7 0]
def Bw:aN:=(s (r acB) (s (r acC) (s (s (r acF) (.cond (.t 21) (s (r acG) .ret) .skip)) (s (r acH) (s (r acI) (s (s (r acJ) (.block 0 (.loop (s (s (r acK) (.cond (.t 30) .skip (.exit 0))) (s (.block 1 (s (.bT Xi acL) (.cond (.t 44) (r acM) .skip))) (r acD)))))) (s (r acE) .ret)))))))
def LJ:List aY:=[.tmp 6,.tmp 7]
theorem TK:bF Tryz.prog Tryz.f19 Bw:=e (by kernel_rfl)
theorem VT:bG Tryz.prog Tryz.f19 LJ:=e (by kernel_rfl)
theorem RL:bE Tryz.prog 19:=e (by kernel_rfl)
def HP:=[o 4 (.mv bh)]
def HQ:=[m 6 0,o 7 (.len (.t 6)),m 8 1,o 9 (.len (.t 8)),o 10 (.bin .neq (.t 7) (.t 9))]
def HR:=[o 4 (.mv bh)]
def HS:=[aV 5 0]
def HT:=[m 11 5,m 12 0,o 13 (.len (.t 12)),lt 14 11 13]
def HU:=[m 17 0,m 18 5,o 19 (.is 1 (.t 17) (.t 18)),l 20 19,m 21 1,m 22 5,o 23 (.is 1 (.t 21) (.t 22)),l 24 23,o 25 (.bin .neq (.t 20) (.t 24))]
def Xr:=some [[],[],[0,1],[2],[],[],[4,5],[6],[3,7]]
def HV:=[o 4 (.mv bh)]
def HW:=[m 15 5,ad 16 15 1,m 5 16]
def HX:=[o 4 (.mv T)]
def BE:aN:=(s (r HP) (s (s (r HQ) (.cond (.t 10) (s (r HR) .ret) .skip)) (s (s (r HS) (.block 0 (.loop (s (s (r HT) (.cond (.t 14) .skip (.exit 0))) (s (.block 1 (s (.bT Xr HU) (.cond (.t 25) (s (r HV) .ret) .skip))) (r HW)))))) (s (r HX) .ret))))
def LR:List aY:=[.tmp 4]
theorem TS:bF Tryz.prog Tryz.f20 BE:=e (by kernel_rfl)
theorem V1:bG Tryz.prog Tryz.f20 LR:=e (by kernel_rfl)
theorem RT:bE Tryz.prog 20:=e (by kernel_rfl)
def adp:=[o 4 (.mv bh)]
def adq:=[m 6 0,o 7 (.len (.t 6)),m 8 1,o 9 (.len (.t 8)),o 10 (.bin .neq (.t 7) (.t 9))]
def adr:=[o 4 (.mv bh)]
def ads:=[aV 5 0]
def adt:=[m 11 5,m 12 0,o 13 (.len (.t 12)),lt 14 11 13]
def adu:=[m 17 0,m 18 5,o 19 (.is 2 (.t 17) (.t 18)),L 20 2 19,m 21 1,m 22 5,o 23 (.is 2 (.t 21) (.t 22)),L 24 2 23,o 25 (.eqv (.bl [(.i .i64),(.i .i64)]) true (.t 20) (.t 24))]
def Xu:=some [[],[],[0,1],[2],[],[],[4,5],[6],[3,7]]
def adv:=[o 4 (.mv bh)]
def adw:=[m 15 5,ad 16 15 1,m 5 16]
def adx:=[o 4 (.mv T)]
def BH:aN:=(s (r adp) (s (s (r adq) (.cond (.t 10) (s (r adr) .ret) .skip)) (s (s (r ads) (.block 0 (.loop (s (s (r adt) (.cond (.t 14) .skip (.exit 0))) (s (.block 1 (s (.bT Xu adu) (.cond (.t 25) (s (r adv) .ret) .skip))) (r adw)))))) (s (r adx) .ret))))
def LV:List aY:=[.tmp 4]
theorem TV:bF Tryz.prog Tryz.f21 BH:=e (by kernel_rfl)
theorem V4:bG Tryz.prog Tryz.f21 LV:=e (by kernel_rfl)
theorem RW:bE Tryz.prog 21:=e (by kernel_rfl)
def ady:=[o 0 (.mv bh)]
def adz:=[o 18 (.call 81 []),m 1 18]
def adC:=[o 19 (.call 82 []),o 2 (.alloc (.agg [.agg [.int .i64 0,.int .i64 0,.int .i64 0,.int .i64 0,.int .i64 0],.int .i64 0,.nils 7])),p (.bl (some 7) (.t 2) (.t 19))]
def adD:=[m 21 1,o 22 (.call 27 [.t 21,(ai 10),(ai 6),(ai 7)]),m 20 22,o 23 (.ext (.t 20) 0),o 24 (.ext (.t 20) 1),m 3 23,m 4 24]
def adE:=[L 26 7 2,m 27 1,o 28 (.call 14 [.t 26,.t 27,(ai 20),(ai 9)]),m 25 28,o 29 (.ext (.t 25) 0),o 30 (.ext (.t 25) 1),m 5 29,m 6 30]
def adF:=[L 32 7 2,m 33 1,o 34 (.call 14 [.t 32,.t 33,(ai 20),(ai 14)]),m 31 34,o 35 (.ext (.t 31) 0),o 36 (.ext (.t 31) 1),m 7 35,m 8 36]
def adG:=[L 38 7 2,m 39 1,o 40 (.call 16 [.t 38,.t 39,(ai 11)]),m 37 40,o 41 (.ext (.t 37) 0),o 42 (.ext (.t 37) 1),m 9 41,m 10 42]
def adH:=[m 44 1,o 45 (.call 28 [.t 44,(ai 2),(ai 3),(ai 7),(ai 7)]),m 43 45,o 46 (.ext (.t 43) 0),o 47 (.ext (.t 43) 1),m 11 46,m 12 47]
def adI:=[m 49 1,o 50 (.call 26 [.t 49,(ai 12),(ai 12)]),m 48 50,o 51 (.ext (.t 48) 0),o 52 (.ext (.t 48) 1),m 13 51,m 14 52]
def adJ:=[L 54 7 2,m 55 1,o 56 (.call 18 [.t 54,.t 55,(ai 20),(ai 9)]),m 53 56,o 57 (.ext (.t 53) 0),o 58 (.ext (.t 53) 1),m 15 57,m 16 58]
def adA:=[m 59 4,o 60 (.bin .eql (.t 59) (ai 0)),m 61 60,cg 62 6 61,aZ 63 (.bin .eql (.t 62) (ai 0)) 61,and 64 61 63,m 65 64,cg 66 8 65,aZ 67 (.bin .eql (.t 66) (ai 0)) 65,and 68 65 67,m 69 68,cg 70 10 69,aZ 71 (.bin .eql (.t 70) (ai 0)) 69,and 72 69 71,m 73 72,cg 74 12 73,aZ 75 (.bin .eql (.t 74) (ai 0)) 73,and 76 73 75,m 77 76,cg 78 14 77,aZ 79 (.bin .eql (.t 78) (ai 0)) 77,and 80 77 79,m 81 80,cg 82 16 81,aZ 83 (.bin .eql (.t 82) (ai 0)) 81,and 84 81 83,m 17 84]
def adB:=[m 85 17,m 86 85,cg 87 3 86,aZ 88 (.bin .eql (.t 87) (ai 2)) 86,and 89 86 88,m 90 89,cg 91 5 90,aZ 92 (.bs 1 [(ai 3)]) 90,aZ 93 (.call 20 [.t 91,.t 92]) 90,and 94 90 93,m 95 94,cg 96 7 95,aZ 97 (.bs 1 [(ai 1),(ai 2),(ai 3)]) 95,aZ 98 (.call 20 [.t 96,.t 97]) 95,and 99 95 98,m 100 99,cg 101 9 100,aZ 102 (.bs 1 [(ai 11)]) 100,aZ 103 (.call 20 [.t 101,.t 102]) 100,and 104 100 103,m 105 104,cg 106 11 105,aZ 107 (.bin .eql (.t 106) (ai 1)) 105,and 108 105 107,m 109 108,cg 110 13 109,aZ 111 (.bs 1 [(ai 11),(ai 20)]) 109,aZ 112 (.call 20 [.t 110,.t 111]) 109,and 113 109 112,m 114 113,cg 115 15 114,aZ 116 (.bld [.int .i64 0,.int .i64 0] [(1,(ai 2))]) 114,aZ 117 (.bld [.int .i64 0,.int .i64 0] [(1,(ai 5))]) 114,aZ 118 (.bs 2 [.t 116,.t 117]) 114,aZ 119 (.call 21 [.t 115,.t 118]) 114,and 120 114 119,m 0 120]
def BM:aN:=(s (r ady) (s (r adz) (s (r adC) (s (r adD) (s (r adE) (s (r adF) (s (r adG) (s (r adH) (s (r adI) (s (r adJ) (s (r adA) (s (r adB) .ret))))))))))))
def L0:List aY:=[.tmp 0]
theorem T0:bF Tryz.prog Tryz.f22 BM:=e (by kernel_rfl)
theorem V9:bG Tryz.prog Tryz.f22 L0:=e (by kernel_rfl)
theorem R1:bE Tryz.prog 22:=e (by kernel_rfl)
def adK:=[o 6 (.mv (.c (.nils 1))),aV 7 0]
def adL:=[m 11 0,m 12 1,m 13 2,o 14 (.bs 1 [.t 12,.t 13]),o 15 (.call 67 [.t 11,(.c (.nils 2)),.t 14]),m 8 15]
def adM:=[m 16 8,o 17 (.bin .neq (.t 16) (ai 0))]
def adN:=[m 18 8,o 6 (.mv (.c (.nils 1))),m 7 18]
def adO:=[m 20 0,m 21 1,m 22 2,o 23 (.call 88 [.t 20,.t 21,.t 22]),m 19 23,o 24 (.ext (.t 19) 0),o 25 (.ext (.t 19) 1),m 9 24,m 10 25]
def adP:=[m 26 9,o 27 (.call 72 [.t 26,(.c (.func 89 []))]),m 6 27,aV 7 0]
def BN:aN:=(s (r adK) (s (s (r adL) (s (r adM) (.cond (.t 17) (s (r adN) .ret) .skip))) (s (r adO) (s (r adP) .ret))))
def L1:List aY:=[.tmp 6,.tmp 7]
theorem T3:bF Tryz.prog Tryz.f26 BN:=e (by kernel_rfl)
theorem Wa:bG Tryz.prog Tryz.f26 L1:=e (by kernel_rfl)
theorem R2:bE Tryz.prog 26:=e (by kernel_rfl)
def adQ:=[aV 8 0,aV 9 0]
def adR:=[m 14 0,m 15 1,o 16 (.bld [.int .i64 0,.int .i64 0] [(0,(.t 15)),(1,(ai 9999))]),o 17 (.bs 2 [.t 16]),m 18 2,m 19 3,o 20 (.bs 1 [.t 18,.t 19]),o 21 (.call 67 [.t 14,.t 17,.t 20]),m 10 21]
def adT:=[m 22 10,o 23 (.bin .neq (.t 22) (ai 0))]
def adU:=[m 24 10,aV 8 0,m 9 24]
def adV:=[m 26 0,m 27 2,m 28 3,o 29 (.call 88 [.t 26,.t 27,.t 28]),m 25 29,o 30 (.ext (.t 25) 0),o 31 (.ext (.t 25) 1),m 11 30,m 12 31]
def adW:=[m 32 11,o 33 (.nilC (.t 32)),f 34 0 0 33,l 35 34,m 36 1,o 37 (.lk (.i .i64) (.nilp) false (.t 35) (.t 36)),m 13 37]
def adX:=[m 39 13,o 40 (.ptrE false (.t 39) (.c (.nilp))),m 38 40]
def adY:=[aV 8 0,aV 9 42]
def adZ:=[m 42 13,o 43 (.call 90 [.t 42]),m 41 43]
def ad0:=[aV 8 0,aV 9 0]
def adS:=[m 44 13,o 45 (.nilC (.t 44)),f 46 0 0 45,f 47 3 3 46,l 48 47,m 8 48,aV 9 0]
def BO:aN:=(s (r adQ) (s (s (r adR) (s (r adT) (.cond (.t 23) (s (r adU) .ret) .skip))) (s (r adV) (s (r adW) (s (.block 0 (s (r adX) (.cond (.t 38) (s (r adY) .ret) (s (r adZ) (.cond (.t 41) (s (r ad0) .ret) .skip))))) (s (r adS) .ret))))))
def L2:List aY:=[.tmp 8,.tmp 9]
theorem T4:bF Tryz.prog Tryz.f27 BO:=e (by kernel_rfl)
theorem Wb:bG Tryz.prog Tryz.f27 L2:=e (by kernel_rfl)
theorem R3:bE Tryz.prog 27:=e (by kernel_rfl)
def ad3:=[b 6 1,b 7 2,aV 10 0,aV 11 0]
def ad4:=[m 15 0,l 16 6,o 17 (.bld [.int .i64 0,.int .i64 0] [(0,(.t 16)),(1,(ai 99))]),l 18 7,o 19 (.bld [.int .i64 0,.int .i64 0] [(0,(.t 18)),(1,(ai 9))]),o 20 (.bs 2 [.t 17,.t 19]),m 21 3,m 22 4,o 23 (.bs 1 [.t 21,.t 22]),o 24 (.call 67 [.t 15,.t 20,.t 23]),m 12 24]
def ad5:=[m 25 12,o 26 (.bin .neq (.t 25) (ai 0))]
def ad6:=[m 27 12,aV 10 0,m 11 27]
def ad7:=[m 29 0,m 30 3,m 31 4,o 32 (.call 88 [.t 29,.t 30,.t 31]),m 28 32,o 33 (.ext (.t 28) 0),o 34 (.ext (.t 28) 1),m 13 33,m 14 34]
def ad8:=[m 35 13,o 36 (.mk 91 [.t 6,.t 7]),o 37 (.call 72 [.t 35,.t 36]),o 38 (.len (.t 37)),m 10 38,aV 11 0]
def BP:aN:=(s (r ad3) (s (s (r ad4) (s (r ad5) (.cond (.t 26) (s (r ad6) .ret) .skip))) (s (r ad7) (s (r ad8) .ret))))
def L3:List aY:=[.tmp 10,.tmp 11]
theorem T5:bF Tryz.prog Tryz.f28 BP:=e (by kernel_rfl)
theorem Wc:bG Tryz.prog Tryz.f28 L3:=e (by kernel_rfl)
theorem R4:bE Tryz.prog 28:=e (by kernel_rfl)
def Ie:=[o 4 (.mv bh)]
def If:=[aV 5 0]
def Ig:=[m 6 5,m 7 0,o 8 (.len (.t 7)),lt 9 6 8]
def Ih:=[m 12 0,m 13 5,o 14 (.is 1 (.t 12) (.t 13)),l 15 14,m 16 1,o 17 (.bin .eql (.t 15) (.t 16))]
def Ii:=[o 4 (.mv T)]
def Ij:=[m 10 5,ad 11 10 1,m 5 11]
def Ik:=[o 4 (.mv bh)]
def BQ:aN:=(s (r Ie) (s (s (r If) (.block 0 (.loop (s (s (r Ig) (.cond (.t 9) .skip (.exit 0))) (s (.block 1 (s (r Ih) (.cond (.t 17) (s (r Ii) .ret) .skip))) (r Ij)))))) (s (r Ik) .ret)))
def L4:List aY:=[.tmp 4]
theorem T7:bF Tryz.prog Tryz.f36 BQ:=e (by kernel_rfl)
theorem We:bG Tryz.prog Tryz.f36 L4:=e (by kernel_rfl)
theorem R6:bE Tryz.prog 36:=e (by kernel_rfl)
def aeh:=[o 6 (.alloc (.agg [.int .i64 0,.int .i64 0,.int .i64 0,.int .i64 0,.int .i64 0,.int .i64 0,.int .i64 0,.bool false,.nils 6])),aV 7 0]
def aei:=[m 11 0,m 12 1,m 13 2,o 14 (.call 92 [.t 11,.t 12,.t 13]),m 8 14]
def aej:=[m 15 8,o 16 (.bin .neq (.t 15) (ai 0))]
def aek:=[o 17 (.bld [.int .i64 0,.int .i64 0,.int .i64 0,.int .i64 0,.int .i64 0,.int .i64 0,.int .i64 0,.bool false,.nils 6] []),m 18 8,p (.bl (some 9) (.t 6) (.t 17)),m 7 18]
def ael:=[m 19 0,m 20 2,o 21 (.call 76 [.t 19,.t 20,(ai 100000)]),o 9 (.alloc (.agg [.nils 9,.nils 1])),p (.bl (some 2) (.t 9) (.t 21))]
def aem:=[f 22 0 0 9,l 23 22,m 24 1,o 25 (.call 93 [.t 23,.t 24]),m 10 25]
def aen:=[m 26 10,o 27 (.bin .lss (.t 26) (ai 0))]
def aeo:=[o 28 (.bld [.int .i64 0,.int .i64 0,.int .i64 0,.int .i64 0,.int .i64 0,.int .i64 0,.int .i64 0,.bool false,.nils 6] []),p (.bl (some 9) (.t 6) (.t 28)),aV 7 42]
def aep:=[f 29 0 0 9,l 30 29,m 31 10,o 32 (.is 9 (.t 30) (.t 31)),L 33 9 32,p (.bl (some 9) (.t 6) (.t 33)),aV 7 0]
def BR:aN:=(s (r aeh) (s (r aei) (s (s (r aej) (.cond (.t 16) (s (r aek) .ret) .skip)) (s (r ael) (s (r aem) (s (s (r aen) (.cond (.t 27) (s (r aeo) .ret) .skip)) (s (r aep) .ret)))))))
def L5:List aY:=[.cell 6 (some 9),.tmp 7]
theorem T8:bF Tryz.prog Tryz.f46 BR:=e (by kernel_rfl)
theorem Wf:bG Tryz.prog Tryz.f46 L5:=e (by kernel_rfl)
theorem R7:bE Tryz.prog 46:=e (by kernel_rfl)
def aeq:=[b 1 0,aV 2 0]
def aer:=[L 3 17 1,o 4 (.call 117 [.t 3]),no 5 4]
def aes:=[aV 2 40]
def aet:=[aV 2 0]
def BS:aN:=(s (r aeq) (s (s (r aer) (.cond (.t 5) (s (r aes) .ret) .skip)) (s (r aet) .ret)))
def L6:List aY:=[.tmp 2]
theorem T9:bF Tryz.prog Tryz.f62 BS:=e (by kernel_rfl)
theorem Wg:bG Tryz.prog Tryz.f62 L6:=e (by kernel_rfl)
theorem R8:bE Tryz.prog 62:=e (by kernel_rfl)
def Il:=[b 1 0,aV 2 0]
def aeu:=[f 7 3 4 1,l 8 7,o 9 (.call 94 [.t 8,(ai 0),(ai 100000)]),m 10 9,cB 11 2 3 1 10,cF 12 11 10,aZ 13 (.call 94 [.t 12,(ai 0),(ai 100000)]) 10,and 14 10 13,m 3 14]
def aeF:=[f 15 0 0 1,L 16 2 15,o 17 (.call 116 [.t 16]),no 18 17,m 19 18,eb 20 3 19,on 21 (.un .not (.t 20)) 19,or 22 19 21,m 23 22,fn 24 1 2 1 23,eO 25 24 23,on 26 (.call 94 [.t 25,(ai 0),(ai 6)]) 23,on 27 (.un .not (.t 26)) 23,or 28 23 27,m 29 28,on 30 (.ld (some 17) (.t 1)) 29,on 31 (.ld (some 17) (.t 1)) 29,on 32 (.call 84 [.t 31]) 29,on 33 (.eqv (.bl [(.bl [(.i .i64),(.i .i64)]),(.i .i64),(.i .i64),(.i .i64),(.i .i64),(.i .i64),(.i .i64),(.i .i64),(.j7 6 (.i .i64)),(.bl [(.i .i64),(.i .i64)])]) true (.t 30) (.t 32)) 29,or 34 29 33]
def Xv:=some [[],[0],[1],[2],[3,2],[4],[5,4],[4,6],[7,4],[8],[9,8],[10,8,8],[11,8],[8,12],[13,11],[14],[14],[16,14,14],[15,17,14],[14,18]]
def aeM:=[aV 2 40]
def aeN:=[f 35 1 2 1,l 36 35,o 37 (.bin .eql (.t 36) (ai 0))]
def aeO:=[f 38 2 3 1,l 39 38,o 40 (.bin .neq (.t 39) (ai 0)),m 41 40,fn 42 9 15 1 41,on 43 (.ld (some 2) (.t 42)) 41,on 44 (.call 116 [.t 43]) 41,on 45 (.un .not (.t 44)) 41,or 46 41 45,m 47 46,fn 48 9 15 1 47,fn 49 0 0 48 47,eO 50 49 47,fn 51 0 0 1 47,fn 52 0 0 51 47,eO 53 52 47,on 54 (.bin .neq (.t 50) (.t 53)) 47,or 55 47 54,m 56 55,fn 57 9 15 1 56,fn 58 1 1 57 56,eO 59 58 56,fn 60 0 0 1 56,fn 61 1 1 60 56,eO 62 61 56,on 63 (.bin .geq (.t 59) (.t 62)) 56,or 64 56 63]
def aeP:=[aV 2 40]
def aeQ:=[aV 2 0]
def aeR:=[f 65 4 5 1,l 66 65,o 67 (.call 94 [.t 66,(ai 1),(ai 9999)]),no 68 67]
def aeS:=[aV 2 40]
def aev:=[f 69 7 8 1,l 70 69,o 71 (.call 94 [.t 70,(ai 1),(ai 99)]),m 4 71]
def aew:=[f 72 6 7 1,l 73 72,o 74 (.call 94 [.t 73,(ai 1),(ai 9)]),m 5 74]
def aex:=[o 6 (.mv bh)]
def aey:=[f 75 1 2 1,l 76 75]
def aez:=[o 78 (.bin .eql (.t 76) (ai 1)),m 77 78]
def aeA:=[m 79 4,no 80 79,m 81 80,eb 82 5 81,on 83 (.un .not (.t 82)) 81,or 84 81 83,m 85 84,fn 86 5 6 1 85,eO 87 86 85,on 88 (.call 94 [.t 87,(ai 0),(ai 9999)]) 85,on 89 (.un .not (.t 88)) 85,or 90 85 89,m 91 90,fn 92 5 6 1 91,eO 93 92 91,fn 94 4 5 1 91,eO 95 94 91,on 96 (.bin .eql (.t 93) (.t 95)) 91,or 97 91 96,m 6 97]
def aeB:=[o 99 (.bin .eql (.t 76) (ai 2)),m 98 99]
def aeC:=[m 100 5,no 101 100,m 6 101]
def aeD:=[o 103 (.bin .eql (.t 76) (ai 3)),m 102 103]
def aeE:=[o 104 (.bin .eql (.t 76) (ai 5)),m 102 104]
def aeG:=[m 105 4,no 106 105,m 6 106]
def aeH:=[o 108 (.bin .eql (.t 76) (ai 4)),m 107 108]
def aeI:=[f 109 8 9 1,L 110 6 109,o 111 (.call 101 [.t 110]),o 112 (.bin .neq (.t 111) (ai 0)),m 6 112]
def aeJ:=[m 113 6]
def aeK:=[aV 2 40]
def aeL:=[aV 2 0]
def BT:aN:=(s (r Il) (s (r aeu) (s (s (.bT Xv aeF) (.cond (.t 34) (s (r aeM) .ret) .skip)) (s (s (r aeN) (.cond (.t 37) (s (s (r aeO) (.cond (.t 64) (s (r aeP) .ret) .skip)) (s (r aeQ) .ret)) .skip)) (s (s (r aeR) (.cond (.t 68) (s (r aeS) .ret) .skip)) (s (r aev) (s (r aew) (s (r aex) (s (s (r aey) (.block 0 (s (r aez) (.cond (.t 77) (r aeA) (s (r aeB) (.cond (.t 98) (r aeC) (s (s (r aeD) (.cond (.t 102) .skip (r aeE))) (.cond (.t 102) (r aeG) (s (r aeH) (.cond (.t 107) (r aeI) .skip)))))))))) (s (s (r aeJ) (.cond (.t 113) (s (r aeK) .ret) .skip)) (s (r aeL) .ret)))))))))))
def L7:List aY:=[.tmp 2]
theorem Ua:bF Tryz.prog Tryz.f63 BT:=e (by kernel_rfl)
theorem Wh:bG Tryz.prog Tryz.f63 L7:=e (by kernel_rfl)
theorem R9:bE Tryz.prog 63:=e (by kernel_rfl)
def Im:=[aV 2 0]
def Io:=[m 5 0,o 6 (.len (.t 5)),o 7 (.bin .gtr (.t 6) (ai 60))]
def aeT:=[aV 2 41]
def Ip:=[m 8 0,o 9 (.len (.t 8)),aV 10 0]
def aeU:=[lt 11 10 9]
def aeV:=[m 12 10,o 13 (.is 17 (.t 8) (.t 10)),L 14 17 13,o 4 (.alloc (.agg [.agg [.int .i64 0,.int .i64 0],.int .i64 0,.int .i64 0,.int .i64 0,.int .i64 0,.int .i64 0,.int .i64 0,.int .i64 0,.agg [.int .i64 0,.int .i64 0,.int .i64 0,.int .i64 0,.int .i64 0,.int .i64 0],.agg [.int .i64 0,.int .i64 0]])),m 3 12,p (.bl (some 17) (.t 4) (.t 14))]
def aeW:=[L 15 17 4,o 16 (.call 117 [.t 15]),no 17 16,m 18 17,eb 19 3 18,on 20 (.bin .gtr (.t 19) (ai 0)) 18,eb 21 20 18,cg 22 0 21,cg 23 3 21,aZ 24 (.bin .sub (.t 23) (ai 1)) 21,aZ 25 (.is 17 (.t 22) (.t 24)) 21,cB 26 0 0 25 21,aZ 27 (.ld (some 2) (.t 26)) 21,cB 28 0 0 4 21,aZ 29 (.ld (some 2) (.t 28)) 21,aZ 30 (.call 118 [.t 27,.t 29]) 21,aZ 31 (.bin .geq (.t 30) (ai 0)) 21,on 32 (.pick (.t 21) (.t 31) bh) 18,or 33 18 32]
def Xw:=some [[],[0],[1],[2,1],[3],[4,3],[5,3,3],[6],[6],[8,6],[7,9,6],[10,6],[11,6],[6],[13,6],[12,14,6,6],[15,6],[6,16,3],[3,17]]
def aeX:=[aV 2 41]
def aeY:=[ad 34 10 1,m 10 34]
def aeZ:=[aV 2 0]
def BU:aN:=(s (r Im) (s (s (r Io) (.cond (.t 7) (s (r aeT) .ret) .skip)) (s (s (r Ip) (.block 0 (.loop (s (r aeU) (s (.cond (.t 11) .skip (.exit 0)) (s (.block 1 (s (r aeV) (s (.bT Xw aeW) (.cond (.t 33) (s (r aeX) .ret) .skip)))) (r aeY))))))) (s (r aeZ) .ret))))
def L8:List aY:=[.tmp 2]
theorem Ub:bF Tryz.prog Tryz.f64 BU:=e (by kernel_rfl)
theorem Wi:bG Tryz.prog Tryz.f64 L8:=e (by kernel_rfl)
theorem Sa:bE Tryz.prog 64:=e (by kernel_rfl)
def Iq:=[aV 2 0]
def Ir:=[m 4 0,o 5 (.len (.t 4)),o 6 (.bin .gtr (.t 5) (ai 60))]
def ae0:=[aV 2 41]
def Is:=[aV 3 0]
def ae1:=[m 7 3,m 8 0,o 9 (.len (.t 8)),lt 10 7 9]
def ae2:=[m 13 0,m 14 3,o 15 (.is 17 (.t 13) (.t 14)),L 16 17 15,o 17 (.call 63 [.t 16]),o 18 (.bin .neq (.t 17) (ai 0)),m 19 18,eb 20 3 19,on 21 (.bin .gtr (.t 20) (ai 0)) 19,eb 22 21 19,cg 23 0 22,cg 24 3 22,aZ 25 (.bin .sub (.t 24) (ai 1)) 22,aZ 26 (.is 17 (.t 23) (.t 25)) 22,cB 27 0 0 26 22,aZ 28 (.ld (some 2) (.t 27)) 22,cg 29 0 22,cg 30 3 22,aZ 31 (.is 17 (.t 29) (.t 30)) 22,cB 32 0 0 31 22,aZ 33 (.ld (some 2) (.t 32)) 22,aZ 34 (.call 119 [.t 28,.t 33]) 22,aZ 35 (.un .not (.t 34)) 22,on 36 (.pick (.t 22) (.t 35) bh) 19,or 37 19 36]
def Xx:=some [[],[],[0,1],[2],[3],[4],[5,4],[6],[7,6],[8,6,6],[9],[9],[11,9],[10,12,9],[13,9],[14,9],[9],[9],[16,17,9],[18,9],[19,9],[15,20,9,9],[21,9],[9,22,6],[6,23]]
def ae3:=[aV 2 41]
def ae4:=[m 11 3,ad 12 11 1,m 3 12]
def ae5:=[aV 2 0]
def BV:aN:=(s (r Iq) (s (s (r Ir) (.cond (.t 6) (s (r ae0) .ret) .skip)) (s (s (r Is) (.block 0 (.loop (s (s (r ae1) (.cond (.t 10) .skip (.exit 0))) (s (.block 1 (s (.bT Xx ae2) (.cond (.t 37) (s (r ae3) .ret) .skip))) (r ae4)))))) (s (r ae5) .ret))))
def L9:List aY:=[.tmp 2]
theorem Uc:bF Tryz.prog Tryz.f65 BV:=e (by kernel_rfl)
theorem Wj:bG Tryz.prog Tryz.f65 L9:=e (by kernel_rfl)
theorem Sb:bE Tryz.prog 65:=e (by kernel_rfl)
def It:=[b 1 0,aV 2 0]
def Iu:=[f 5 0 0 1,L 6 5 5,o 7 (.call 120 [.t 6]),no 8 7,m 9 8,fn 10 1 5 1 9,eO 11 10 9,on 12 (.call 121 [.t 11,(ai 0),(ai 2)]) 9,on 13 (.un .not (.t 12)) 9,or 14 9 13,m 15 14,fn 16 2 6 1 15,eO 17 16 15,on 18 (.len (.t 17)) 15,on 19 (.bin .gtr (.t 18) (ai 40)) 15,or 20 15 19]
def sR:=[aV 2 13]
def Iv:=[f 21 2 6 1,l 22 21,o 23 (.len (.t 22)),aV 24 0]
def Iw:=[lt 25 24 23]
def Iy:=[m 26 24,o 27 (.is 7 (.t 22) (.t 24)),L 28 7 27,o 4 (.alloc (.agg [.int .i64 0,.agg [.int .i64 0,.int .i64 0,.int .i64 0,.int .i64 0,.int .i64 0,.int .i64 0]])),m 3 26,p (.bl (some 7) (.t 4) (.t 28))]
def Iz:=[f 29 0 0 4,l 30 29,o 31 (.call 122 [.t 30]),no 32 31,m 33 32,fn 34 1 1 4 33,on 35 (.ld (some 6) (.t 34)) 33,on 36 (.call 123 [.t 35]) 33,on 37 (.un .not (.t 36)) 33,or 38 33 37,m 39 38,eb 40 3 39,on 41 (.bin .gtr (.t 40) (ai 0)) 39,eb 42 41 39,cB 43 2 6 1 42,cF 44 43 42,cg 45 3 42,aZ 46 (.bin .sub (.t 45) (ai 1)) 42,aZ 47 (.is 7 (.t 44) (.t 46)) 42,cB 48 0 0 47 42,cF 49 48 42,cB 50 0 0 4 42,cF 51 50 42,aZ 52 (.bin .geq (.t 49) (.t 51)) 42,on 53 (.pick (.t 42) (.t 52) bh) 39,or 54 39 53,m 55 54,on 56 (.ld (some 7) (.t 1)) 55,fn 57 2 6 1 55,eO 58 57 55,eb 59 3 55,on 60 (.sl 7 (.t 58) none (some (.t 59)) none) 55,fn 61 1 1 4 55,on 62 (.ld (some 6) (.t 61)) 55,on 63 (.call 124 [.t 56,.t 60,.t 62]) 55,on 64 (.un .not (.t 63)) 55,or 65 55 64]
def Xy:=some [[],[0],[1],[2],[3,2],[4],[5,4],[6,4,4],[7,4],[4,8],[9,7],[10],[11,10],[12,10,10],[13],[14,13],[13],[16,13],[15,17,13],[18,13],[19,13],[13],[21,13],[20,22,13],[13,23,10],[10,24],[25,13],[26],[26],[28,26],[26],[29,30,26],[26],[32,26],[27,31,33,26,26],[34,26],[26,35]]
def pD:=[aV 2 13]
def wX:=[ad 66 24 1,m 24 66]
def IA:=[aV 2 0]
def BW:aN:=(s (r It) (s (s (r Iu) (.cond (.t 20) (s (r sR) .ret) .skip)) (s (s (r Iv) (.block 0 (.loop (s (r Iw) (s (.cond (.t 25) .skip (.exit 0)) (s (.block 1 (s (r Iy) (s (.bT Xy Iz) (.cond (.t 65) (s (r pD) .ret) .skip)))) (r wX))))))) (s (r IA) .ret))))
def Ma:List aY:=[.tmp 2]
theorem Ud:bF Tryz.prog Tryz.f66 BW:=e (by kernel_rfl)
theorem Wk:bG Tryz.prog Tryz.f66 Ma:=e (by kernel_rfl)
theorem Sc:bE Tryz.prog 66:=e (by kernel_rfl)
def ae6:=[aV 6 0]
def ae7:=[m 10 0,o 11 (.call 64 [.t 10]),m 7 11]
def afb:=[m 12 7,o 13 (.bin .neq (.t 12) (ai 0))]
def afc:=[m 14 7,m 6 14]
def afd:=[m 15 1,o 16 (.len (.t 15)),aV 17 0]
def afe:=[lt 18 17 16]
def aff:=[o 19 (.is 2 (.t 15) (.t 17)),L 20 2 19,o 9 (.alloc (.agg [.int .i64 0,.int .i64 0])),p (.bl (some 2) (.t 9) (.t 20))]
def afg:=[o 21 (.ia 2 1 (.t 9) (ai 0)),l 22 21,o 23 (.ia 2 1 (.t 9) (ai 1)),l 24 23,o 25 (.call 114 [.t 22,(ai 1),.t 24]),no 26 25]
def afh:=[aV 6 1]
def afi:=[ad 27 17 1,m 17 27]
def ae8:=[m 28 2,o 29 (.call 125 [.t 28,(.c (.func 126 []))])]
def ae9:=[aV 6 6]
def afa:=[aV 6 0]
def BX:aN:=(s (r ae6) (s (s (r ae7) (s (r afb) (.cond (.t 13) (s (r afc) .ret) .skip))) (s (s (r afd) (.block 0 (.loop (s (r afe) (s (.cond (.t 18) .skip (.exit 0)) (s (.block 1 (s (r aff) (s (r afg) (.cond (.t 26) (s (r afh) .ret) .skip)))) (r afi))))))) (s (s (r ae8) (.cond (.t 29) (s (r ae9) .ret) .skip)) (s (r afa) .ret)))))
def Mb:List aY:=[.tmp 6]
theorem Ue:bF Tryz.prog Tryz.f67 BX:=e (by kernel_rfl)
theorem Wl:bG Tryz.prog Tryz.f67 Mb:=e (by kernel_rfl)
theorem Sd:bE Tryz.prog 67:=e (by kernel_rfl)
def afj:=[o 4 (.mv (.c (.nilp)))]
def afk:=[m 8 0,m 9 1,o 10 (.call 88 [.t 8,(ai 100000),.t 9]),m 7 10,o 11 (.ext (.t 7) 0),o 12 (.ext (.t 7) 1),m 5 11,m 6 12]
def afl:=[m 13 5,m 4 13]
def BY:aN:=(s (r afj) (s (r afk) (s (r afl) .ret)))
def Mc:List aY:=[.tmp 4]
theorem Uf:bF Tryz.prog Tryz.f68 BY:=e (by kernel_rfl)
theorem Wm:bG Tryz.prog Tryz.f68 Mc:=e (by kernel_rfl)
theorem Se:bE Tryz.prog 68:=e (by kernel_rfl)
def afm:=[b 2 0,o 4 (.mv (.c (.nils 1)))]
def afn:=[L 8 7 2,m 9 1,o 10 (.nilC (.t 9)),f 11 0 0 10,f 12 8 8 11,l 13 12,o 14 (.call 128 [.t 8,.t 13]),m 7 14,o 15 (.ext (.t 7) 0),o 16 (.ext (.t 7) 1),m 5 15,m 6 16]
def Xz:=some [[],[],[1],[2],[3],[4],[0,5],[6],[7],[7],[8,6,0,1,2,3,4,5,6,7,8],[9,10,0,1,2,3,4,5,6,7,8,9,10]]
def afo:=[m 17 5,m 4 17]
def BZ:aN:=(s (r afm) (s (.bT Xz afn) (s (r afo) .ret)))
def Md:List aY:=[.tmp 4]
theorem Ug:bF Tryz.prog Tryz.f69 BZ:=e (by kernel_rfl)
theorem Wn:bG Tryz.prog Tryz.f69 Md:=e (by kernel_rfl)
theorem Sf:bE Tryz.prog 69:=e (by kernel_rfl)
def IB:=[b 1 0,aV 2 0]
def IC:=[f 6 0 0 1,L 7 5 6,o 8 (.call 99 [.t 7]),o 9 (.bin .neq (.t 8) (ai 0)),m 10 9,fn 11 1 5 1 10,eO 12 11 10,on 13 (.call 94 [.t 12,(ai 0),(ai 2)]) 10,on 14 (.un .not (.t 13)) 10,or 15 10 14,m 16 15,fn 17 2 6 1 16,eO 18 17 16,on 19 (.len (.t 18)) 16,on 20 (.bin .gtr (.t 19) (ai 40)) 16,or 21 16 20]
def sS:=[aV 2 13]
def IE:=[aV 3 0]
def IF:=[m 22 3,f 23 2 6 1,l 24 23,o 25 (.len (.t 24)),lt 26 22 25]
def IG:=[f 29 2 6 1,l 30 29,m 31 3,o 32 (.is 7 (.t 30) (.t 31)),L 33 7 32,o 4 (.alloc (.agg [.int .i64 0,.agg [.int .i64 0,.int .i64 0,.int .i64 0,.int .i64 0,.int .i64 0,.int .i64 0]])),p (.bl (some 7) (.t 4) (.t 33))]
def IH:=[f 34 0 0 4,l 35 34,o 36 (.call 94 [.t 35,(ai 1),(ai 99)]),no 37 36,m 38 37,fn 39 1 1 4 38,on 40 (.ld (some 6) (.t 39)) 38,on 41 (.call 100 [.t 40]) 38,on 42 (.bin .neq (.t 41) (ai 0)) 38,or 43 38 42,m 44 43,eb 45 3 44,on 46 (.bin .gtr (.t 45) (ai 0)) 44,eb 47 46 44,cB 48 2 6 1 47,cF 49 48 47,cg 50 3 47,aZ 51 (.bin .sub (.t 50) (ai 1)) 47,aZ 52 (.is 7 (.t 49) (.t 51)) 47,cB 53 0 0 52 47,cF 54 53 47,cB 55 0 0 4 47,cF 56 55 47,aZ 57 (.bin .geq (.t 54) (.t 56)) 47,on 58 (.pick (.t 47) (.t 57) bh) 44,or 59 44 58]
def XB:=some [[],[0],[1],[2],[3,2],[4],[5,4],[6,4,4],[7,4],[4,8],[9,7],[10],[11,10],[12,10,10],[13],[14,13],[13],[16,13],[15,17,13],[18,13],[19,13],[13],[21,13],[20,22,13],[13,23,10],[10,24]]
def sT:=[aV 2 13]
def xb:=[aV 5 0]
def xc:=[m 60 5,m 61 3,lt 62 60 61]
def wY:=[f 65 0 0 1,L 66 5 65,f 67 2 6 1,l 68 67,m 69 5,o 70 (.is 7 (.t 68) (.t 69)),f 71 1 1 70,L 72 6 71,f 73 1 1 4,L 74 6 73,o 75 (.call 129 [.t 66,.t 72,.t 74]),f 76 1 5 1,l 77 76,o 78 (.bin .mul (ai 2) (.t 77)),o 79 (.bin .leq (.t 75) (.t 78))]
def XA:=some [[],[0],[],[2],[],[3,4],[5],[6],[],[8],[1,7,9],[],[11],[12],[10,13]]
def wZ:=[aV 2 13]
def w0:=[m 63 5,ad 64 63 1,m 5 64]
def xa:=[m 27 3,ad 28 27 1,m 3 28]
def ID:=[aV 2 0]
def B1:aN:=(s (r IB) (s (s (r IC) (.cond (.t 21) (s (r sS) .ret) .skip)) (s (s (r IE) (.block 0 (.loop (s (s (r IF) (.cond (.t 26) .skip (.exit 0))) (s (.block 1 (s (r IG) (s (s (.bT XB IH) (.cond (.t 59) (s (r sT) .ret) .skip)) (s (r xb) (.block 2 (.loop (s (s (r xc) (.cond (.t 62) .skip (.exit 2))) (s (.block 3 (s (.bT XA wY) (.cond (.t 79) (s (r wZ) .ret) .skip))) (r w0))))))))) (r xa)))))) (s (r ID) .ret))))
def Me:List aY:=[.tmp 2]
theorem Uh:bF Tryz.prog Tryz.f70 B1:=e (by kernel_rfl)
theorem Wo:bG Tryz.prog Tryz.f70 Me:=e (by kernel_rfl)
theorem Sg:bE Tryz.prog 70:=e (by kernel_rfl)
def afp:=[b 2 0,b 3 1,o 4 (.mv (.c (.nils 1)))]
def afq:=[L 8 7 2,f 9 8 8 3,l 10 9,o 11 (.call 130 [.t 8,.t 10]),m 7 11,o 12 (.ext (.t 7) 0),o 13 (.ext (.t 7) 1),m 5 12,m 6 13]
def afr:=[m 14 5,m 4 14]
def B3:aN:=(s (r afp) (s (r afq) (s (r afr) .ret)))
def Mf:List aY:=[.tmp 4]
theorem Ui:bF Tryz.prog Tryz.f71 B3:=e (by kernel_rfl)
theorem Wp:bG Tryz.prog Tryz.f71 Mf:=e (by kernel_rfl)
theorem Sh:bE Tryz.prog 71:=e (by kernel_rfl)
def II:=[o 4 (.mv (.c (.nils 1)))]
def IJ:=[o 5 (.mv (.c (.nils 1)))]
def IK:=[m 8 0,o 9 (.nilC (.t 8)),f 10 0 0 9,l 11 10,o 12 (.kq (.t 11))]
def xd:=[o 13 (.jx (.t 12)),o 14 (.ext (.t 13) 0)]
def IL:=[o 15 (.ent (.t 12)),o 16 (.ext (.t 15) 0),o 17 (.ext (.t 15) 1),m 6 16,m 7 17]
def IM:=[m 18 1,m 19 7,o 20 (.eH (.t 18) [.t 19])]
def afs:=[m 21 5,m 22 6,o 23 (.bs 1 [.t 22]),o 24 (.cS 3 1 8 (.int .i64 0) (.t 21) (.t 23)),m 5 24]
def aft:=[m 25 5,o 26 (.call 107 [.t 25])]
def afu:=[m 27 5,m 4 27]
def B4:aN:=(s (r II) (s (r IJ) (s (s (r IK) (.block 0 (.loop (s (r xd) (s (.cond (.t 14) .skip (.exit 0)) (.block 1 (s (r IL) (s (r IM) (.cond (.t 20) (r afs) .skip))))))))) (s (r aft) (s (r afu) .ret)))))
def Mg:List aY:=[.tmp 4]
theorem Uj:bF Tryz.prog Tryz.f72 B4:=e (by kernel_rfl)
theorem Wq:bG Tryz.prog Tryz.f72 Mg:=e (by kernel_rfl)
theorem Si:bE Tryz.prog 72:=e (by kernel_rfl)
def afv:=[o 3 (.mv bh)]
def afw:=[m 4 0,o 5 (.nilC (.t 4)),f 6 0 0 5,f 7 4 4 6,l 8 7,o 9 (.bin .gtr (.t 8) (ai 0)),m 10 9,aZ 11 (.ld (some 7) (.t 1)) 10,cg 12 0 10,aZ 13 (.call 69 [.t 11,.t 12]) 10,cg 14 0 10,aZ 15 (.nilC (.t 14)) 10,cB 16 0 0 15 10,cB 17 4 4 16 10,cF 18 17 10,aZ 19 (.call 74 [.t 13,.t 18]) 10,aZ 20 (.un .not (.t 19)) 10,and 21 10 20,m 3 21]
def XC:=some [[],[0],[1],[2],[3],[4],[5],[6],[6],[7,8,6,6],[6],[10,6],[11,6],[12,6],[13,6],[9,14,9,6],[15,6],[6,16],[17,15,0,1,2,3,4,5,6,7,8,9,10,11,12,13,14,15,16,17]]
def B5:aN:=(s (r afv) (s (.bT XC afw) .ret))
def Mh:List aY:=[.tmp 3]
theorem Uk:bF Tryz.prog Tryz.f73 B5:=e (by kernel_rfl)
theorem Wr:bG Tryz.prog Tryz.f73 Mh:=e (by kernel_rfl)
theorem Sj:bE Tryz.prog 73:=e (by kernel_rfl)
def afx:=[o 4 (.mv bh)]
def afy:=[m 5 0,m 6 1,o 7 (.call 131 [.t 5,.t 6]),o 8 (.bin .geq (.t 7) (ai 0)),m 4 8]
def B6:aN:=(s (r afx) (s (r afy) .ret))
def Mi:List aY:=[.tmp 4]
theorem Ul:bF Tryz.prog Tryz.f74 B6:=e (by kernel_rfl)
theorem Ws:bG Tryz.prog Tryz.f74 Mi:=e (by kernel_rfl)
theorem Sk:bE Tryz.prog 74:=e (by kernel_rfl)
def IN:=[o 2 (.mv bh)]
def IP:=[m 3 0,o 4 (.call 94 [.t 3,(ai 0),(ai 100000)]),m 2 4]
def B7:aN:=(s (r IN) (s (r IP) .ret))
def Mj:List aY:=[.tmp 2]
theorem Um:bF Tryz.prog Tryz.f75 B7:=e (by kernel_rfl)
theorem Wt:bG Tryz.prog Tryz.f75 Mj:=e (by kernel_rfl)
theorem Sl:bE Tryz.prog 75:=e (by kernel_rfl)
def afz:=[o 6 (.alloc (.agg [.nils 9,.nils 1]))]
def afA:=[m 16 0,m 17 1,o 18 (.call 106 [.t 16,.t 17]),m 7 18]
def afL:=[o 8 (.mv (.c (.nils 1)))]
def afO:=[aV 9 0]
def afP:=[m 19 9,m 20 0,o 21 (.len (.t 20)),lt 22 19 21]
def afQ:=[m 25 7,m 26 9,o 27 (.is 1 (.t 25) (.t 26)),l 28 27,no 29 28,m 30 29,eb 31 0 30,eb 32 9 30,on 33 (.is 17 (.t 31) (.t 32)) 30,fn 34 1 2 33 30,eO 35 34 30,on 36 (.bin .eql (.t 35) (ai 0)) 30,or 37 30 36,m 38 37,eb 39 0 38,eb 40 9 38,on 41 (.is 17 (.t 39) (.t 40)) 38,fn 42 2 3 41 38,eO 43 42 38,eb 44 2 38,on 45 (.bin .gtr (.t 43) (.t 44)) 38,or 46 38 45]
def afR:=[m 47 8,o 48 (.len (.t 47)),m 10 48]
def afS:=[m 49 10,o 50 (.bin .gtr (.t 49) (ai 0)),m 51 50,cg 52 0 51,cg 53 8 51,cg 54 10 51,aZ 55 (.bin .sub (.t 54) (ai 1)) 51,aZ 56 (.is 1 (.t 53) (.t 55)) 51,cF 57 56 51,aZ 58 (.is 17 (.t 52) (.t 57)) 51,cB 59 2 3 58 51,cF 60 59 51,cg 61 0 51,cg 62 9 51,aZ 63 (.is 17 (.t 61) (.t 62)) 51,cB 64 2 3 63 51,cF 65 64 51,aZ 66 (.bin .gtr (.t 60) (.t 65)) 51,and 67 51 66]
def XE:=some [[],[0],[1],[2],[2],[2],[5,2],[4,6,2],[7,2],[3,8,2],[9,2],[10,2],[2],[2],[12,13,2],[14,2],[15,2],[11,16,2],[2,17]]
def afT:=[m 68 10,o 69 (.bin .sub (.t 68) (ai 1)),m 10 69]
def sU:=[o 70 (.bs0 1),m 71 8,m 72 10,o 73 (.sl 1 (.t 71) none (some (.t 72)) none),o 74 (.cS 3 1 8 (.int .i64 0) (.t 70) (.t 73)),m 75 9,o 76 (.bs 1 [.t 75]),o 77 (.cS 3 1 8 (.int .i64 0) (.t 74) (.t 76)),m 78 8,m 79 10,o 80 (.sl 1 (.t 78) (some (.t 79)) none none),o 81 (.cS 3 1 8 (.int .i64 0) (.t 77) (.t 80)),m 8 81]
def CR:=some [[],[],[],[1,2],[0,3],[],[5],[4,6,4],[],[],[8,9],[7,10,7],[11,11,0,1,2,3,4,5,6,7,8,9,10,11]] -- DRAW BAD
def afB:=[m 23 9,ad 24 23 1,m 9 24]
def afC:=[o 82 (.bld [.nils 9,.nils 1] []),o 11 (.alloc (.agg [.nils 9,.nils 1])),p (.bl (some 2) (.t 11) (.t 82))]
def afD:=[o 12 (.mv (.c (.nils 1)))]
def afE:=[aV 13 0]
def afF:=[m 83 13,m 84 8,o 85 (.len (.t 84)),lt 86 83 85]
def afG:=[f 90 0 0 11,l 91 90,m 92 0,m 93 8,m 94 13,o 95 (.is 1 (.t 93) (.t 94)),l 96 95,o 97 (.is 17 (.t 92) (.t 96)),L 98 17 97,o 99 (.call 132 [.t 91,.t 98]),m 89 99,o 100 (.ext (.t 89) 0),o 101 (.ext (.t 89) 1),m 14 100,m 15 101]
def XD:=some [[],[0],[],[],[],[3,4],[5],[2,6],[7],[1,8],[9],[10],[10],[11,9,0,1,2,3,4,5,6,7,8,9,10,11],[12,13,0,1,2,3,4,5,6,7,8,9,10,11,12,13]]
def afH:=[m 102 14,f 103 0 0 11,p (.bl none (.t 103) (.t 102))]
def afI:=[m 104 15,no 105 104]
def afJ:=[m 106 12,m 107 8,m 108 13,o 109 (.is 1 (.t 107) (.t 108)),l 110 109,o 111 (.bs 1 [.t 110]),o 112 (.cS 3 1 8 (.int .i64 0) (.t 106) (.t 111)),m 12 112]
def afK:=[m 87 13,ad 88 87 1,m 13 88]
def afM:=[m 113 12,o 114 (.call 97 [.t 113]),f 115 1 1 11,p (.bl none (.t 115) (.t 114))]
def afN:=[L 116 2 11,p (.bl (some 2) (.t 6) (.t 116))]
def B8:aN:=(s (r afz) (s (r afA) (s (r afL) (s (s (r afO) (.block 0 (.loop (s (s (r afP) (.cond (.t 22) .skip (.exit 0))) (s (.block 1 (s (s (r afQ) (.cond (.t 46) (.exit 1) .skip)) (s (r afR) (s (.block 2 (.loop (s (s (.bT XE afS) (.cond (.t 67) .skip (.exit 2))) (.block 3 (r afT))))) (.bT CR sU))))) (r afB)))))) (s (r afC) (s (r afD) (s (s (r afE) (.block 4 (.loop (s (s (r afF) (.cond (.t 86) .skip (.exit 4))) (s (.block 5 (s (.bT XD afG) (s (r afH) (s (r afI) (.cond (.t 105) (r afJ) .skip))))) (r afK)))))) (s (r afM) (s (r afN) .ret)))))))))
def Mk:List aY:=[.cell 6 (some 2)]
theorem Un:bF Tryz.prog Tryz.f76 B8:=e (by kernel_rfl)
theorem Wu:bG Tryz.prog Tryz.f76 Mk:=e (by kernel_rfl)
theorem Sm:bE Tryz.prog 76:=e (by kernel_rfl)
def afU:=[b 3 0,o 6 (.mv bh)]
def afV:=[m 8 1,o 9 (.ptrE false (.t 8) (.c (.nilp))),m 10 9,eb 11 2 10,on 12 (.ptrE false (.t 11) (.c (.nilp))) 10,or 13 10 12]
def afW:=[m 14 1,m 15 2,o 16 (.ptrE false (.t 14) (.t 15)),m 6 16]
def afX:=[o 7 (.mv (.c (.func 133 [])))]
def afY:=[m 17 7,m 18 1,o 19 (.eH (.t 17) [.t 18]),m 20 7,m 21 2,o 22 (.eH (.t 20) [.t 21]),o 23 (.eqv (.j7 8 (.i .i64)) false (.t 19) (.t 22)),m 24 23,aZ 25 (.ld (some 7) (.t 3)) 24,cg 26 1 24,aZ 27 (.call 69 [.t 25,.t 26]) 24,aZ 28 (.ld (some 7) (.t 3)) 24,cg 29 2 24,aZ 30 (.call 69 [.t 28,.t 29]) 24,aZ 31 (.call 134 [.t 27,.t 30]) 24,and 32 24 31,m 6 32]
def XF:=some [[],[],[0,1],[],[],[3,4,2],[2,5],[6,5],[7],[7],[8,9,7,7],[7],[7],[11,12,10,7],[10,13,13,7],[7,14],[15,14,0,1,2,3,4,5,6,7,8,9,10,11,12,13,14,15]]
def sn:aN:=(s (r afU) (s (s (r afV) (.cond (.t 13) (s (r afW) .ret) .skip)) (s (r afX) (s (.bT XF afY) .ret))))
def ua:List aY:=[.tmp 6]
theorem vr:bF Tryz.prog Tryz.f77 sn:=e (by kernel_rfl)
theorem vC:bG Tryz.prog Tryz.f77 ua:=e (by kernel_rfl)
theorem vp:bE Tryz.prog 77:=e (by kernel_rfl)
def IQ:=[o 4 (.mv (.c (.nils 17)))]
def IS:=[m 5 0,o 6 (.call 136 [.t 5]),m 7 1,m 8 1,ad 9 8 1,o 10 (.call 135 [.t 6,.t 7,.t 9]),m 4 10]
def B9:aN:=(s (r IQ) (s (r IS) .ret))
def Ml:List aY:=[.tmp 4]
theorem Uo:bF Tryz.prog Tryz.f78 B9:=e (by kernel_rfl)
theorem Wv:bG Tryz.prog Tryz.f78 Ml:=e (by kernel_rfl)
theorem Sn:bE Tryz.prog 78:=e (by kernel_rfl)
def afZ:=[b 4 0,b 5 1,b 6 2,o 8 (.mv bh)]
def af0:=[f 15 0 0 5,l 16 15,m 17 3,o 18 (.call 93 [.t 16,.t 17]),m 9 18]
def af1:=[f 19 0 0 6,l 20 19,m 21 3,o 22 (.call 93 [.t 20,.t 21]),m 10 22]
def af2:=[m 23 9,o 24 (.bin .lss (.t 23) (ai 0)),m 25 24,eb 26 10 25,on 27 (.bin .lss (.t 26) (ai 0)) 25,or 28 25 27]
def af3:=[m 29 9,o 30 (.bin .lss (.t 29) (ai 0)),m 31 30,cg 32 10 31,aZ 33 (.bin .lss (.t 32) (ai 0)) 31,and 34 31 33,m 8 34]
def af4:=[f 35 0 0 5,l 36 35,m 37 9,o 38 (.is 9 (.t 36) (.t 37)),L 39 9 38,o 11 (.alloc (.agg [.int .i64 0,.int .i64 0,.int .i64 0,.int .i64 0,.int .i64 0,.int .i64 0,.int .i64 0,.bool false,.nils 6])),p (.bl (some 9) (.t 11) (.t 39))]
def af5:=[f 40 0 0 6,l 41 40,m 42 10,o 43 (.is 9 (.t 41) (.t 42)),L 44 9 43,o 12 (.alloc (.agg [.int .i64 0,.int .i64 0,.int .i64 0,.int .i64 0,.int .i64 0,.int .i64 0,.int .i64 0,.bool false,.nils 6])),p (.bl (some 9) (.t 12) (.t 44))]
def af6:=[f 45 1 1 11,l 46 45,f 47 1 1 12,l 48 47,o 49 (.bin .eql (.t 46) (.t 48)),m 50 49,cB 51 2 2 11 50,cF 52 51 50,cB 53 2 2 12 50,cF 54 53 50,aZ 55 (.bin .eql (.t 52) (.t 54)) 50,and 56 50 55,m 57 56,cB 58 3 3 11 57,cF 59 58 57,cB 60 3 3 12 57,cF 61 60 57,aZ 62 (.bin .eql (.t 59) (.t 61)) 57,and 63 57 62,m 64 63,cB 65 4 4 11 64,cF 66 65 64,cB 67 4 4 12 64,cF 68 67 64,aZ 69 (.bin .eql (.t 66) (.t 68)) 64,and 70 64 69,m 13 70]
def af7:=[f 71 5 5 11,l 72 71,f 73 5 5 12,l 74 73,o 75 (.bin .eql (.t 72) (.t 74)),m 76 75,cB 77 6 6 11 76,cF 78 77 76,cB 79 6 6 12 76,cF 80 79 76,aZ 81 (.bin .eql (.t 78) (.t 80)) 76,and 82 76 81,m 83 82,cB 84 7 7 11 83,cF 85 84 83,cB 86 7 7 12 83,cF 87 86 83,aZ 88 (.eqv .b false (.t 85) (.t 87)) 83,and 89 83 88,m 14 89]
def af8:=[m 90 13,m 91 90,cg 92 14 91,and 93 91 92,m 94 93,aZ 95 (.ld (some 7) (.t 4)) 94,aZ 96 (.ld (some 9) (.t 11)) 94,aZ 97 (.call 71 [.t 95,.t 96]) 94,aZ 98 (.ld (some 7) (.t 4)) 94,aZ 99 (.ld (some 9) (.t 12)) 94,aZ 100 (.call 71 [.t 98,.t 99]) 94,aZ 101 (.call 20 [.t 97,.t 100]) 94,and 102 94 101,m 8 102]
def XG:=some [[],[0],[1],[1,2],[3,1],[4],[4],[5,6,4,4],[4],[4],[8,9,7,4],[7,10,10,4],[4,11],[12,11,0,1,2,3,4,5,6,7,8,9,10,11,12]]
def Ca:aN:=(s (r afZ) (s (r af0) (s (r af1) (s (s (r af2) (.cond (.t 28) (s (r af3) .ret) .skip)) (s (r af4) (s (r af5) (s (r af6) (s (r af7) (s (.bT XG af8) .ret)))))))))
def Mm:List aY:=[.tmp 8]
theorem Up:bF Tryz.prog Tryz.f79 Ca:=e (by kernel_rfl)
theorem Ww:bG Tryz.prog Tryz.f79 Mm:=e (by kernel_rfl)
theorem Sp:bE Tryz.prog 79:=e (by kernel_rfl)
def af9:=[o 4 (.mv (.c (.nils 17)))]
def aga:=[o 5 (.mv (.c (.nils 17)))]
def agb:=[aV 6 0]
def agc:=[m 7 6,m 8 0,o 9 (.len (.t 8)),lt 10 7 9]
def agd:=[m 13 6,m 14 1,o 15 (.bin .neq (.t 13) (.t 14))]
def age:=[m 16 5,m 17 0,m 18 6,o 19 (.is 17 (.t 17) (.t 18)),L 20 17 19,o 21 (.bs 17 [.t 20]),o 22 (.cS 68 17 136 (.agg [.agg [.int .i64 0,.int .i64 0],.int .i64 0,.int .i64 0,.int .i64 0,.int .i64 0,.int .i64 0,.int .i64 0,.int .i64 0,.agg [.int .i64 0,.int .i64 0,.int .i64 0,.int .i64 0,.int .i64 0,.int .i64 0],.agg [.int .i64 0,.int .i64 0]]) (.t 16) (.t 21)),m 5 22]
def agf:=[m 11 6,ad 12 11 1,m 6 12]
def agh:=[m 23 5,m 4 23]
def Cb:aN:=(s (r af9) (s (r aga) (s (s (r agb) (.block 0 (.loop (s (s (r agc) (.cond (.t 10) .skip (.exit 0))) (s (.block 1 (s (r agd) (.cond (.t 15) (r age) .skip))) (r agf)))))) (s (r agh) .ret))))
def Mn:List aY:=[.tmp 4]
theorem Uq:bF Tryz.prog Tryz.f80 Cb:=e (by kernel_rfl)
theorem Wx:bG Tryz.prog Tryz.f80 Mn:=e (by kernel_rfl)
theorem Sq:bE Tryz.prog 80:=e (by kernel_rfl)
def IT:=[o 0 (.mv (.c (.nils 17)))]
def IU:=[o 1 (.bld [.agg [.int .i64 0,.int .i64 0],.int .i64 0,.int .i64 0,.int .i64 0,.int .i64 0,.int .i64 0,.int .i64 0,.int .i64 0,.agg [.int .i64 0,.int .i64 0,.int .i64 0,.int .i64 0,.int .i64 0,.int .i64 0],.agg [.int .i64 0,.int .i64 0]] [(1,(ai 1)),(2,(ai 1)),(3,(ai 1)),(4,(ai 10)),(6,(ai 3)),(7,(ai 2))]),o 2 (.bld [.int .i64 0,.int .i64 0] [(1,(ai 1))]),o 3 (.bld [.agg [.int .i64 0,.int .i64 0],.int .i64 0,.int .i64 0,.int .i64 0,.int .i64 0,.int .i64 0,.int .i64 0,.int .i64 0,.agg [.int .i64 0,.int .i64 0,.int .i64 0,.int .i64 0,.int .i64 0,.int .i64 0],.agg [.int .i64 0,.int .i64 0]] [(0,(.t 2)),(1,(ai 1)),(2,(ai 5)),(3,(ai 5)),(4,(ai 11)),(6,(ai 3)),(7,(ai 2)),(5,(ai 10))]),o 4 (.bld [.int .i64 0,.int .i64 0] [(1,(ai 2))]),o 5 (.bld [.agg [.int .i64 0,.int .i64 0],.int .i64 0,.int .i64 0,.int .i64 0,.int .i64 0,.int .i64 0,.int .i64 0,.int .i64 0,.agg [.int .i64 0,.int .i64 0,.int .i64 0,.int .i64 0,.int .i64 0,.int .i64 0],.agg [.int .i64 0,.int .i64 0]] [(0,(.t 4)),(1,(ai 2)),(2,(ai 6)),(3,(ai 6)),(4,(ai 20)),(6,(ai 3))]),o 6 (.bld [.int .i64 0,.int .i64 0] [(1,(ai 3))]),o 7 (.bld [.int .i64 0,.int .i64 0,.int .i64 0,.int .i64 0,.int .i64 0,.int .i64 0] [(0,(ai 31)),(1,(ai 1)),(2,(ai 1)),(3,(ai 1)),(4,(ai 1)),(5,(ai 31))]),o 8 (.bld [.agg [.int .i64 0,.int .i64 0],.int .i64 0,.int .i64 0,.int .i64 0,.int .i64 0,.int .i64 0,.int .i64 0,.int .i64 0,.agg [.int .i64 0,.int .i64 0,.int .i64 0,.int .i64 0,.int .i64 0,.int .i64 0],.agg [.int .i64 0,.int .i64 0]] [(0,(.t 6)),(1,(ai 4)),(2,(ai 6)),(3,(ai 6)),(4,(ai 20)),(8,(.t 7))]),o 9 (.bld [.int .i64 0,.int .i64 0] [(1,(ai 4))]),o 10 (.bld [.agg [.int .i64 0,.int .i64 0],.int .i64 0,.int .i64 0,.int .i64 0,.int .i64 0,.int .i64 0,.int .i64 0,.int .i64 0,.agg [.int .i64 0,.int .i64 0,.int .i64 0,.int .i64 0,.int .i64 0,.int .i64 0],.agg [.int .i64 0,.int .i64 0]] [(0,(.t 9)),(1,(ai 3)),(2,(ai 7)),(3,(ai 7)),(4,(ai 10)),(7,(ai 1))]),o 11 (.bld [.int .i64 0,.int .i64 0] [(1,(ai 5))]),o 12 (.bld [.int .i64 0,.int .i64 0,.int .i64 0,.int .i64 0,.int .i64 0,.int .i64 0] [(0,(ai 24)),(1,(ai 1)),(2,(ai 1)),(3,(ai 1)),(4,(ai 1)),(5,(ai 31))]),o 13 (.bld [.agg [.int .i64 0,.int .i64 0],.int .i64 0,.int .i64 0,.int .i64 0,.int .i64 0,.int .i64 0,.int .i64 0,.int .i64 0,.agg [.int .i64 0,.int .i64 0,.int .i64 0,.int .i64 0,.int .i64 0,.int .i64 0],.agg [.int .i64 0,.int .i64 0]] [(0,(.t 11)),(1,(ai 4)),(2,(ai 6)),(3,(ai 9)),(4,(ai 20)),(8,(.t 12))]),o 14 (.bld [.int .i64 0,.int .i64 0] [(1,(ai 6))]),o 15 (.bld [.agg [.int .i64 0,.int .i64 0],.int .i64 0,.int .i64 0,.int .i64 0,.int .i64 0,.int .i64 0,.int .i64 0,.int .i64 0,.agg [.int .i64 0,.int .i64 0,.int .i64 0,.int .i64 0,.int .i64 0,.int .i64 0],.agg [.int .i64 0,.int .i64 0]] [(0,(.t 14)),(1,(ai 5)),(2,(ai 10)),(3,(ai 10)),(4,(ai 20)),(7,(ai 3))]),o 16 (.bld [.int .i64 0,.int .i64 0] [(1,(ai 7))]),o 17 (.bld [.int .i64 0,.int .i64 0,.int .i64 0,.int .i64 0,.int .i64 0,.int .i64 0] [(0,(ai 1)),(1,(ai 1)),(2,(ai 1)),(3,(ai 1)),(4,(ai 1)),(5,(ai 1))]),o 18 (.bld [.agg [.int .i64 0,.int .i64 0],.int .i64 0,.int .i64 0,.int .i64 0,.int .i64 0,.int .i64 0,.int .i64 0,.int .i64 0,.agg [.int .i64 0,.int .i64 0,.int .i64 0,.int .i64 0,.int .i64 0,.int .i64 0],.agg [.int .i64 0,.int .i64 0]] [(0,(.t 16)),(1,(ai 4)),(2,(ai 8)),(3,(ai 11)),(4,(ai 11)),(8,(.t 17))]),o 19 (.bld [.int .i64 0,.int .i64 0] [(1,(ai 8))]),o 20 (.bld [.agg [.int .i64 0,.int .i64 0],.int .i64 0,.int .i64 0,.int .i64 0,.int .i64 0,.int .i64 0,.int .i64 0,.int .i64 0,.agg [.int .i64 0,.int .i64 0,.int .i64 0,.int .i64 0,.int .i64 0,.int .i64 0],.agg [.int .i64 0,.int .i64 0]] [(0,(.t 19)),(1,(ai 6)),(2,(ai 12)),(3,(ai 12)),(4,(ai 10))]),o 21 (.bld [.int .i64 0,.int .i64 0] [(1,(ai 9))]),o 22 (.bld [.int .i64 0,.int .i64 0] [(1,(ai 5))]),o 23 (.bld [.agg [.int .i64 0,.int .i64 0],.int .i64 0,.int .i64 0,.int .i64 0,.int .i64 0,.int .i64 0,.int .i64 0,.int .i64 0,.agg [.int .i64 0,.int .i64 0,.int .i64 0,.int .i64 0,.int .i64 0,.int .i64 0],.agg [.int .i64 0,.int .i64 0]] [(0,(.t 21)),(1,(ai 0)),(3,(ai 14)),(9,(.t 22))]),o 24 (.bs 17 [.t 1,.t 3,.t 5,.t 8,.t 10,.t 13,.t 15,.t 18,.t 20,.t 23]),m 0 24]
def Cc:aN:=(s (r IT) (s (r IU) .ret))
def Mo:List aY:=[.tmp 0]
theorem Ur:bF Tryz.prog Tryz.f81 Cc:=e (by kernel_rfl)
theorem Wy:bG Tryz.prog Tryz.f81 Mo:=e (by kernel_rfl)
theorem Sr:bE Tryz.prog 81:=e (by kernel_rfl)
def IV:=[o 0 (.alloc (.agg [.agg [.int .i64 0,.int .i64 0,.int .i64 0,.int .i64 0,.int .i64 0],.int .i64 0,.nils 7]))]
def IW:=[o 1 (.bld [.int .i64 0,.int .i64 0,.int .i64 0,.int .i64 0,.int .i64 0] [(0,(ai 1)),(1,(ai 3)),(2,(ai 4)),(3,(ai 24)),(4,(ai 24))]),o 2 (.bld [.int .i64 0,.agg [.int .i64 0,.int .i64 0,.int .i64 0,.int .i64 0,.int .i64 0,.int .i64 0]] [(0,(ai 1))]),o 3 (.bld [.int .i64 0,.int .i64 0,.int .i64 0,.int .i64 0,.int .i64 0,.int .i64 0] [(0,(ai 2)),(1,(ai 0)),(2,(ai 0)),(3,(ai 0)),(4,(ai 0)),(5,(ai 0))]),o 4 (.bld [.int .i64 0,.agg [.int .i64 0,.int .i64 0,.int .i64 0,.int .i64 0,.int .i64 0,.int .i64 0]] [(0,(ai 2)),(1,(.t 3))]),o 5 (.bld [.int .i64 0,.int .i64 0,.int .i64 0,.int .i64 0,.int .i64 0,.int .i64 0] [(0,(ai 3)),(1,(ai 0)),(2,(ai 0)),(3,(ai 0)),(4,(ai 0)),(5,(ai 2))]),o 6 (.bld [.int .i64 0,.agg [.int .i64 0,.int .i64 0,.int .i64 0,.int .i64 0,.int .i64 0,.int .i64 0]] [(0,(ai 3)),(1,(.t 5))]),o 7 (.bs 7 [.t 2,.t 4,.t 6]),o 8 (.bld [.agg [.int .i64 0,.int .i64 0,.int .i64 0,.int .i64 0,.int .i64 0],.int .i64 0,.nils 7] [(0,(.t 1)),(2,(.t 7))]),p (.bl (some 7) (.t 0) (.t 8))]
def Cd:aN:=(s (r IV) (s (r IW) .ret))
def Mp:List aY:=[.cell 0 (some 7)]
theorem Us:bF Tryz.prog Tryz.f82 Cd:=e (by kernel_rfl)
theorem Wz:bG Tryz.prog Tryz.f82 Mp:=e (by kernel_rfl)
theorem St:bE Tryz.prog 82:=e (by kernel_rfl)
def agi:=[b 1 0,o 2 (.alloc (.agg [.agg [.int .i64 0,.int .i64 0],.int .i64 0,.int .i64 0,.int .i64 0,.int .i64 0,.int .i64 0,.int .i64 0,.int .i64 0,.agg [.int .i64 0,.int .i64 0,.int .i64 0,.int .i64 0,.int .i64 0,.int .i64 0],.agg [.int .i64 0,.int .i64 0]]))]
def agj:=[f 4 0 0 1,L 5 2 4,f 6 1 2 1,l 7 6,f 8 2 3 1,l 9 8,f 10 3 4 1,l 11 10,o 12 (.bld [.agg [.int .i64 0,.int .i64 0],.int .i64 0,.int .i64 0,.int .i64 0,.int .i64 0,.int .i64 0,.int .i64 0,.int .i64 0,.agg [.int .i64 0,.int .i64 0,.int .i64 0,.int .i64 0,.int .i64 0,.int .i64 0],.agg [.int .i64 0,.int .i64 0]] [(0,(.t 5)),(1,(.t 7)),(2,(.t 9)),(3,(.t 11))]),o 3 (.alloc (.agg [.agg [.int .i64 0,.int .i64 0],.int .i64 0,.int .i64 0,.int .i64 0,.int .i64 0,.int .i64 0,.int .i64 0,.int .i64 0,.agg [.int .i64 0,.int .i64 0,.int .i64 0,.int .i64 0,.int .i64 0,.int .i64 0],.agg [.int .i64 0,.int .i64 0]])),p (.bl (some 17) (.t 3) (.t 12))]
def agt:=[f 13 1 2 1,l 14 13,o 15 (.bin .eql (.t 14) (ai 0))]
def agu:=[f 16 9 15 1,L 17 2 16,f 18 9 15 3,p (.bl (some 2) (.t 18) (.t 17))]
def agv:=[L 19 17 3,p (.bl (some 17) (.t 2) (.t 19))]
def agw:=[f 20 4 5 1,l 21 20,f 22 4 5 3,p (.bl none (.t 22) (.t 21))]
def agx:=[f 23 1 2 1,l 24 23]
def agy:=[o 26 (.bin .eql (.t 24) (ai 1)),m 25 26]
def agz:=[f 27 6 7 1,l 28 27,f 29 6 7 3,p (.bl none (.t 29) (.t 28))]
def agA:=[f 30 7 8 1,l 31 30,f 32 7 8 3,p (.bl none (.t 32) (.t 31))]
def agk:=[f 33 5 6 1,l 34 33,f 35 5 6 3,p (.bl none (.t 35) (.t 34))]
def agl:=[o 37 (.bin .eql (.t 24) (ai 2)),m 36 37]
def agm:=[f 38 6 7 1,l 39 38,f 40 6 7 3,p (.bl none (.t 40) (.t 39))]
def agn:=[o 42 (.bin .eql (.t 24) (ai 3)),m 41 42]
def ago:=[o 43 (.bin .eql (.t 24) (ai 5)),m 41 43]
def agp:=[f 44 7 8 1,l 45 44,f 46 7 8 3,p (.bl none (.t 46) (.t 45))]
def agq:=[o 48 (.bin .eql (.t 24) (ai 4)),m 47 48]
def agr:=[f 49 8 9 1,L 50 6 49,f 51 8 9 3,p (.bl (some 6) (.t 51) (.t 50))]
def ags:=[L 52 17 3,p (.bl (some 17) (.t 2) (.t 52))]
def Ce:aN:=(s (r agi) (s (r agj) (s (s (r agt) (.cond (.t 15) (s (r agu) (s (r agv) .ret)) .skip)) (s (r agw) (s (s (r agx) (.block 0 (s (r agy) (.cond (.t 25) (s (r agz) (s (r agA) (r agk))) (s (r agl) (.cond (.t 36) (r agm) (s (s (r agn) (.cond (.t 41) .skip (r ago))) (.cond (.t 41) (r agp) (s (r agq) (.cond (.t 47) (r agr) .skip)))))))))) (s (r ags) .ret))))))
def Mq:List aY:=[.cell 2 (some 17)]
theorem Ut:bF Tryz.prog Tryz.f84 Ce:=e (by kernel_rfl)
theorem WA:bG Tryz.prog Tryz.f84 Mq:=e (by kernel_rfl)
theorem Su:bE Tryz.prog 84:=e (by kernel_rfl)
def IX:=[b 3 0,b 4 1,o 6 (.mv (.c (.nilp))),o 7 (.mv (.c (.nils 1)))]
def IY:=[o 8 (.alloc (.nils 1)),o 9 (.mv (.c (.nils 1)))]
def I3:=[l 15 3,m 16 2,o 17 (.call 105 [.t 15,.t 16])]
def agB:=[m 10 18]
def agC:=[l 19 3,m 20 10,o 21 (.is 17 (.t 19) (.t 20)),f 22 1 2 21,l 23 22,o 24 (.bin .neq (.t 23) (ai 0)),m 25 24,cF 26 3 25,cg 27 10 25,aZ 28 (.is 17 (.t 26) (.t 27)) 25,cB 29 2 3 28 25,cF 30 29 25,cF 31 4 25,aZ 32 (.bin .leq (.t 30) (.t 31)) 25,and 33 25 32]
def XH:=some [[],[],[0,1],[2],[3],[4],[5],[6],[6],[7,8,6],[9,6],[10,6],[6],[11,12,6],[6,13]]
def agD:=[l 34 8,m 35 10,o 36 (.bs 1 [.t 35]),o 37 (.cS 3 1 8 (.int .i64 0) (.t 34) (.t 36)),p (.bl none (.t 8) (.t 37))]
def xf:=[l 38 8,o 39 (.mk 138 [.t 3]),o 40 (.call 137 [.t 38,.t 39])]
def xg:=[o 41 (.jP),o 42 (.bld [.raw (.map none)] [(0,(.t 41))]),b 43 42,m 11 43]
def xh:=[o 44 (.call 139 []),m 12 44]
def xi:=[l 45 8,o 46 (.len (.t 45)),aV 47 0]
def sV:=[lt 48 47 46]
def xe:=[o 49 (.is 1 (.t 45) (.t 47)),l 50 49,m 14 50]
def sW:=[m 51 12,l 52 3,m 53 14,o 54 (.is 17 (.t 52) (.t 53)),f 55 1 2 54,l 56 55,o 57 (.lk (.i .i64) (.dj) false (.t 51) (.t 56)),m 58 11,l 59 3,m 60 14,o 61 (.is 17 (.t 59) (.t 60)),L 62 17 61,o 63 (.eH (.t 57) [.t 58,.t 62]),no 64 63]
def CS:=some [[],[],[],[1,2],[3],[4],[0,5],[],[],[],[8,9],[10],[6,7,11],[12]]
def IZ:=[m 65 9,m 66 14,o 67 (.bs 1 [.t 66]),o 68 (.cS 3 1 8 (.int .i64 0) (.t 65) (.t 67)),m 9 68]
def I0:=[ad 69 47 1,m 47 69]
def I1:=[m 70 9,o 71 (.call 107 [.t 70])]
def I2:=[m 72 11,m 73 9,m 6 72,m 7 73]
def Cf:aN:=(s (r IX) (s (r IY) (s (s (r I3) (.block 0 (.kU (.t 17) [18] (r agB) (.block 1 (s (.bT XH agC) (.cond (.t 33) (r agD) .skip)))))) (s (r xf) (s (r xg) (s (r xh) (s (s (r xi) (.block 2 (.loop (s (r sV) (s (.cond (.t 48) .skip (.exit 2)) (s (.block 3 (s (r xe) (s (.bT CS sW) (.cond (.t 64) (r IZ) .skip)))) (r I0))))))) (s (r I1) (s (r I2) .ret)))))))))
def Mr:List aY:=[.tmp 6,.tmp 7]
theorem Uu:bF Tryz.prog Tryz.f88 Cf:=e (by kernel_rfl)
theorem WB:bG Tryz.prog Tryz.f88 Mr:=e (by kernel_rfl)
theorem Sv:bE Tryz.prog 88:=e (by kernel_rfl)
def agE:=[o 2 (.mv bh)]
def agF:=[m 3 0,o 4 (.call 90 [.t 3]),no 5 4,m 2 5]
def Cg:aN:=(s (r agE) (s (r agF) .ret))
def Ms:List aY:=[.tmp 2]
theorem Uv:bF Tryz.prog Tryz.f89 Cg:=e (by kernel_rfl)
theorem WC:bG Tryz.prog Tryz.f89 Ms:=e (by kernel_rfl)
theorem Sw:bE Tryz.prog 89:=e (by kernel_rfl)
def agG:=[o 2 (.mv bh)]
def agH:=[m 3 0,o 4 (.nilC (.t 3)),f 5 0 0 4,f 6 6 6 5,l 7 6,o 8 (.bin .geq (.t 7) (ai 0)),m 2 8]
def Ch:aN:=(s (r agG) (s (r agH) .ret))
def Mt:List aY:=[.tmp 2]
theorem Uw:bF Tryz.prog Tryz.f90 Ch:=e (by kernel_rfl)
theorem WD:bG Tryz.prog Tryz.f90 Mt:=e (by kernel_rfl)
theorem Sx:bE Tryz.prog 90:=e (by kernel_rfl)
def agI:=[o 4 (.mv bh)]
def agJ:=[m 5 0,o 6 (.call 90 [.t 5]),no 7 6,m 8 7,cg 9 0 8,aZ 10 (.nilC (.t 9)) 8,cB 11 0 0 10 8,cB 12 3 3 11 8,cF 13 12 8,cF 14 1 8,aZ 15 (.bin .eql (.t 13) (.t 14)) 8,and 16 8 15,m 17 16,cg 18 0 17,aZ 19 (.nilC (.t 18)) 17,cB 20 0 0 19 17,cB 21 1 1 20 17,cF 22 21 17,cF 23 2 17,aZ 24 (.bin .eql (.t 22) (.t 23)) 17,and 25 17 24,m 4 25]
def XI:=some [[],[0],[1],[2,1],[3],[4,3],[5,3],[6,3],[7,3],[3],[8,9,3],[3,10],[11,3],[12],[13,12],[14,12],[15,12],[16,12],[12],[17,18,12],[12,19],[20,12,0,1,2,3,4,5,6,7,8,9,10,11,12,13,14,15,16,17,18,19,20]]
def Ci:aN:=(s (r agI) (s (.bT XI agJ) .ret))
def Mu:List aY:=[.tmp 4]
theorem Ux:bF Tryz.prog Tryz.f91 Ci:=e (by kernel_rfl)
theorem WE:bG Tryz.prog Tryz.f91 Mu:=e (by kernel_rfl)
theorem Sy:bE Tryz.prog 91:=e (by kernel_rfl)
def agK:=[aV 6 0]
def agL:=[m 7 0,o 8 (.call 65 [.t 7]),o 9 (.bin .neq (.t 8) (ai 0))]
def agM:=[aV 6 41]
def agN:=[m 10 1,o 11 (.call 94 [.t 10,(ai 1),(ai 9999)]),no 12 11]
def agO:=[aV 6 1]
def agP:=[m 13 2,o 14 (.call 75 [.t 13]),no 15 14]
def agQ:=[aV 6 6]
def agR:=[aV 6 0]
def Cj:aN:=(s (r agK) (s (s (r agL) (.cond (.t 9) (s (r agM) .ret) .skip)) (s (s (r agN) (.cond (.t 12) (s (r agO) .ret) .skip)) (s (s (r agP) (.cond (.t 15) (s (r agQ) .ret) .skip)) (s (r agR) .ret)))))
def Mv:List aY:=[.tmp 6]
theorem Uy:bF Tryz.prog Tryz.f92 Cj:=e (by kernel_rfl)
theorem WG:bG Tryz.prog Tryz.f92 Mv:=e (by kernel_rfl)
theorem Sz:bE Tryz.prog 92:=e (by kernel_rfl)
def agS:=[aV 4 0]
def agT:=[aV 5 0]
def agU:=[m 6 5,m 7 0,o 8 (.len (.t 7)),lt 9 6 8]
def agV:=[m 12 0,m 13 5,o 14 (.is 9 (.t 12) (.t 13)),f 15 0 0 14,l 16 15,m 17 1,o 18 (.bin .eql (.t 16) (.t 17))]
def agW:=[m 19 5,m 4 19]
def agX:=[m 10 5,ad 11 10 1,m 5 11]
def agY:=[aV 4 (-1)]
def Ck:aN:=(s (r agS) (s (s (r agT) (.block 0 (.loop (s (s (r agU) (.cond (.t 9) .skip (.exit 0))) (s (.block 1 (s (r agV) (.cond (.t 18) (s (r agW) .ret) .skip))) (r agX)))))) (s (r agY) .ret)))
def Mw:List aY:=[.tmp 4]
theorem Uz:bF Tryz.prog Tryz.f93 Ck:=e (by kernel_rfl)
theorem WH:bG Tryz.prog Tryz.f93 Mw:=e (by kernel_rfl)
theorem SA:bE Tryz.prog 93:=e (by kernel_rfl)
def I4:=[o 6 (.mv bh)]
def I5:=[m 7 1,m 8 0,o 9 (.bin .leq (.t 7) (.t 8)),m 10 9,cg 11 0 10,cg 12 2 10,aZ 13 (.bin .leq (.t 11) (.t 12)) 10,and 14 10 13,m 6 14]
def Cl:aN:=(s (r I4) (s (r I5) .ret))
def Mx:List aY:=[.tmp 6]
theorem UA:bF Tryz.prog Tryz.f94 Cl:=e (by kernel_rfl)
theorem WI:bG Tryz.prog Tryz.f94 Mx:=e (by kernel_rfl)
theorem SB:bE Tryz.prog 94:=e (by kernel_rfl)
def agZ:=[o 2 (.mv (.c (.nils 1)))]
def ag0:=[o 3 (.mv (.c (.nils 1)))]
def ag1:=[aV 4 0]
def ag2:=[m 5 4,m 6 0,o 7 (.len (.t 6)),lt 8 5 7]
def ag3:=[m 11 3,m 12 0,m 13 4,o 14 (.is 1 (.t 12) (.t 13)),l 15 14,o 16 (.call 140 [.t 11,.t 15]),m 3 16]
def ag4:=[m 9 4,ad 10 9 1,m 4 10]
def ag5:=[m 17 3,m 2 17]
def Cm:aN:=(s (r agZ) (s (r ag0) (s (s (r ag1) (.block 0 (.loop (s (s (r ag2) (.cond (.t 8) .skip (.exit 0))) (s (.block 1 (r ag3)) (r ag4)))))) (s (r ag5) .ret))))
def My:List aY:=[.tmp 2]
theorem UB:bF Tryz.prog Tryz.f97 Cm:=e (by kernel_rfl)
theorem WJ:bG Tryz.prog Tryz.f97 My:=e (by kernel_rfl)
theorem SC:bE Tryz.prog 97:=e (by kernel_rfl)
def I6:=[b 1 0,aV 2 0]
def I7:=[aV 3 0]
def I8:=[m 4 3,o 5 (.bin .lss (.t 4) (ai 5))]
def I9:=[m 8 3,o 9 (.ia 5 1 (.t 1) (.t 8)),l 10 9,o 11 (.call 94 [.t 10,(ai 0),(ai 31)]),no 12 11,m 13 12,eb 14 3 13,on 15 (.ia 5 1 (.t 1) (.t 14)) 13,eO 16 15 13,eb 17 3 13,on 18 (.bin .shl (ai 1) (.t 17)) 13,on 19 (.bin .and (.t 16) (.t 18)) 13,on 20 (.bin .eql (.t 19) (ai 0)) 13,or 21 13 20]
def XJ:=some [[],[0],[1],[2],[3],[4,3],[5],[6,5],[7,5],[5],[9,5],[8,10,5],[11,5],[5,12]]
def xj:=[aV 2 11]
def Ja:=[m 6 3,ad 7 6 1,m 3 7]
def Jb:=[aV 2 0]
def Cn:aN:=(s (r I6) (s (s (r I7) (.block 0 (.loop (s (s (r I8) (.cond (.t 5) .skip (.exit 0))) (s (.block 1 (s (.bT XJ I9) (.cond (.t 21) (s (r xj) .ret) .skip))) (r Ja)))))) (s (r Jb) .ret)))
def Mz:List aY:=[.tmp 2]
theorem UC:bF Tryz.prog Tryz.f99 Cn:=e (by kernel_rfl)
theorem WK:bG Tryz.prog Tryz.f99 Mz:=e (by kernel_rfl)
theorem SD:bE Tryz.prog 99:=e (by kernel_rfl)
def DG:=[b 1 0,aV 2 0]
def DH:=[aV 3 0]
def DI:=[m 4 3,o 5 (.bin .lss (.t 4) (ai 6))]
def DJ:=[m 8 3,o 9 (.ia 6 1 (.t 1) (.t 8)),l 10 9,o 11 (.call 94 [.t 10,(ai 0),(ai 4)]),no 12 11]
def DK:=[aV 2 10]
def DL:=[m 6 3,ad 7 6 1,m 3 7]
def DM:=[aV 2 0]
def Ap:aN:=(s (r DG) (s (s (r DH) (.block 0 (.loop (s (s (r DI) (.cond (.t 5) .skip (.exit 0))) (s (.block 1 (s (r DJ) (.cond (.t 12) (s (r DK) .ret) .skip))) (r DL)))))) (s (r DM) .ret)))
def KI:List aY:=[.tmp 2]
theorem SI:bF Tryz.prog Tryz.f100 Ap:=e (by kernel_rfl)
theorem US:bG Tryz.prog Tryz.f100 KI:=e (by kernel_rfl)
theorem QL:bE Tryz.prog 100:=e (by kernel_rfl)
def DN:=[b 1 0,aV 2 0]
def DO:=[aV 3 0]
def DP:=[m 4 3,o 5 (.bin .lss (.t 4) (ai 6))]
def DQ:=[m 8 3,o 9 (.ia 6 1 (.t 1) (.t 8)),l 10 9,o 11 (.call 94 [.t 10,(ai 1),(ai 31)]),no 12 11]
def DR:=[aV 2 12]
def DS:=[m 6 3,ad 7 6 1,m 3 7]
def DT:=[aV 2 0]
def Aq:aN:=(s (r DN) (s (s (r DO) (.block 0 (.loop (s (s (r DP) (.cond (.t 5) .skip (.exit 0))) (s (.block 1 (s (r DQ) (.cond (.t 12) (s (r DR) .ret) .skip))) (r DS)))))) (s (r DT) .ret)))
def KJ:List aY:=[.tmp 2]
theorem SJ:bF Tryz.prog Tryz.f101 Aq:=e (by kernel_rfl)
theorem UT:bG Tryz.prog Tryz.f101 KJ:=e (by kernel_rfl)
theorem QM:bE Tryz.prog 101:=e (by kernel_rfl)
def DU:=[b 3 0,b 4 1,b 5 2,aV 6 0]
def DV:=[aV 7 0]
def DW:=[aV 8 0]
def DX:=[m 9 8,o 10 (.bin .lss (.t 9) (ai 6))]
def DY:=[m 13 8,o 14 (.ia 6 1 (.t 4) (.t 13)),l 15 14,o 16 (.ia 5 1 (.t 3) (.t 15)),l 17 16,m 18 8,o 19 (.ia 6 1 (.t 5) (.t 18)),l 20 19,o 21 (.bin .and (.t 17) (.t 20)),o 22 (.bin .eql (.t 21) (ai 0))]
def WM:=some [[],[0],[1],[2],[3],[],[5],[6],[4,7],[8]]
def DZ:=[m 23 7,ad 24 23 1,m 7 24]
def wb:=[m 11 8,ad 12 11 1,m 8 12]
def D4:=[m 25 7,m 6 25]
def Ar:aN:=(s (r DU) (s (r DV) (s (s (r DW) (.block 0 (.loop (s (s (r DX) (.cond (.t 10) .skip (.exit 0))) (s (.block 1 (s (.bT WM DY) (.cond (.t 22) (r DZ) .skip))) (r wb)))))) (s (r D4) .ret))))
def KK:List aY:=[.tmp 6]
theorem SK:bF Tryz.prog Tryz.f102 Ar:=e (by kernel_rfl)
theorem UU:bG Tryz.prog Tryz.f102 KK:=e (by kernel_rfl)
theorem QN:bE Tryz.prog 102:=e (by kernel_rfl)
def D5:=[b 2 0,b 3 1,o 4 (.mv (.c (.dj)))]
def D6:=[o 9 (.jP),o 5 (.alloc (.raw (.map none))),p (.bl none (.t 5) (.t 9))]
def D7:=[l 10 2,o 11 (.len (.t 10)),o 12 (.jQ 4 1 (.bool false) (.t 11)),o 6 (.alloc (.nils 1)),p (.bl none (.t 6) (.t 12))]
def D8:=[l 13 2,o 14 (.call 145 [.t 13])]
def YV:=[m 7 15]
def YW:=[o 8 (.alloc (.agg [.agg [.int .i64 0,.int .i64 0],.int .i64 0,.int .i64 0,.int .i64 0,.int .i64 0,.int .i64 0,.int .i64 0,.int .i64 0,.agg [.int .i64 0,.int .i64 0,.int .i64 0,.int .i64 0,.int .i64 0,.int .i64 0],.agg [.int .i64 0,.int .i64 0]])),p (.bl (some 17) (.t 8) (.t 16))]
def YX:=[l 17 6,m 18 7,f 19 3 4 8,l 20 19,l 21 3,o 22 (.bin .leq (.t 20) (.t 21)),m 23 22,cF 24 5 23,cB 25 0 0 8 23,aZ 26 (.ld (some 2) (.t 25)) 23,aZ 27 (.lk (.bl [(.i .i64),(.i .i64)]) (.bool false) false (.t 24) (.t 26)) 23,aZ 28 (.un .not (.t 27)) 23,and 29 23 28,o 30 (.is 1 (.t 17) (.t 18)),p (.bl none (.t 30) (.t 29))]
def WN:=some [[],[],[],[2],[],[3,4],[5],[6],[6],[8,6],[7,9,6],[10,6],[6,11],[0,1,0,1,2,3,4,5,6,7,8,9,10,11,12],[13,12,6,0,1,2,3,4,5,6,7,8,9,10,11,12]]
def YY:=[l 31 6,m 32 7,o 33 (.is 1 (.t 31) (.t 32)),l 34 33,m 35 34,cB 36 1 2 8 35,cF 37 36 35,aZ 38 (.bin .eql (.t 37) (ai 0)) 35,and 39 35 38]
def YZ:=[l 40 5,f 41 9 15 8,L 42 2 41,p (.gK (.bl [(.i .i64),(.i .i64)]) (.t 40) (.t 42) T)]
def Y0:=[o 43 (.mk 146 [.t 2,.t 6]),m 4 43]
def As:aN:=(s (r D5) (s (r D6) (s (r D7) (s (s (r D8) (.block 0 (.kU (.t 14) [15,16] (s (r YV) (r YW)) (.block 1 (s (.bT WN YX) (s (r YY) (.cond (.t 39) (r YZ) .skip))))))) (s (r Y0) .ret)))))
def KL:List aY:=[.tmp 4]
theorem SL:bF Tryz.prog Tryz.f105 As:=e (by kernel_rfl)
theorem UW:bG Tryz.prog Tryz.f105 KL:=e (by kernel_rfl)
theorem QO:bE Tryz.prog 105:=e (by kernel_rfl)
def D9:=[o 4 (.mv (.c (.nils 1)))]
def Ea:=[m 8 0,o 9 (.len (.t 8)),o 10 (.jQ 4 1 (.bool false) (.t 9)),m 5 10]
def Eb:=[m 11 0,o 12 (.len (.t 11)),o 13 (.bin .sub (.t 12) (ai 1)),m 6 13]
def Y3:=[m 14 6,o 15 (.bin .geq (.t 14) (ai 0))]
def Y4:=[m 18 5,m 19 6,m 20 0,m 21 6,o 22 (.is 17 (.t 20) (.t 21)),f 23 3 4 22,l 24 23,m 25 1,o 26 (.bin .leq (.t 24) (.t 25)),o 27 (.is 1 (.t 18) (.t 19)),p (.bl none (.t 27) (.t 26))]
def Y5:=[m 28 6,ad 29 28 1,m 7 29]
def Y6:=[m 30 7,m 31 0,o 32 (.len (.t 31)),lt 33 30 32]
def Y7:=[m 36 5,m 37 7,o 38 (.is 1 (.t 36) (.t 37)),l 39 38,m 40 39,cg 41 0 40,cg 42 7 40,aZ 43 (.is 17 (.t 41) (.t 42)) 40,cB 44 1 2 43 40,cF 45 44 40,aZ 46 (.bin .eql (.t 45) (ai 0)) 40,and 47 40 46,m 48 47,cg 49 0 48,cg 50 7 48,aZ 51 (.is 17 (.t 49) (.t 50)) 48,cB 52 9 15 51 48,aZ 53 (.ld (some 2) (.t 52)) 48,cg 54 0 48,cg 55 6 48,aZ 56 (.is 17 (.t 54) (.t 55)) 48,cB 57 0 0 56 48,aZ 58 (.ld (some 2) (.t 57)) 48,aZ 59 (.eqv (.bl [(.i .i64),(.i .i64)]) false (.t 53) (.t 58)) 48,and 60 48 59]
def WO:=some [[],[],[0,1],[2],[3],[4],[4],[5,6,4],[7,4],[8,4],[9,4],[4,10],[11,4],[12],[12],[13,14,12],[15,12],[16,12],[12],[12],[18,19,12],[20,12],[21,12],[17,22,12],[12,23]]
def Y8:=[m 61 5,m 62 6,o 63 (.is 1 (.t 61) (.t 62)),p (.bl none (.t 63) bh)]
def Y9:=[m 34 7,ad 35 34 1,m 7 35]
def Y1:=[m 16 6,o 17 (.bin .sub (.t 16) (ai 1)),m 6 17]
def Y2:=[m 64 5,m 4 64]
def Au:aN:=(s (r D9) (s (r Ea) (s (s (r Eb) (.block 0 (.loop (s (s (r Y3) (.cond (.t 15) .skip (.exit 0))) (s (.block 1 (s (r Y4) (s (r Y5) (.block 2 (.loop (s (s (r Y6) (.cond (.t 33) .skip (.exit 2))) (s (.block 3 (s (.bT WO Y7) (.cond (.t 60) (r Y8) .skip))) (r Y9)))))))) (r Y1)))))) (s (r Y2) .ret))))
def KM:List aY:=[.tmp 4]
theorem SM:bF Tryz.prog Tryz.f106 Au:=e (by kernel_rfl)
theorem UX:bG Tryz.prog Tryz.f106 KM:=e (by kernel_rfl)
theorem QP:bE Tryz.prog 106:=e (by kernel_rfl)
theorem Co:bE Tryz.prog 107:=e (by kernel_rfl)
end Go.Proofs.YtcldiigclhgafaaGreat
namespace Go.Abs
open Go Go.RowKit
def pt(on:List (List Nat)):List Nat:=on.foldl (fun acc ks=>acc++[nW acc ks]) []
def vF(d:Option (List (List Nat)))(gs:List aB):Bool:=match d with
 |none=>true
 |some on=>sw on gs (pt on)
section
variable {c:cM} {Q:Exit→ae→Prop} {A:ae} {d:Option (List (List Nat))} {on:List (List Nat)} {gs:List aB}
theorem J.bD(hd:vF d gs=true)(h:∀ K:ae→Prop,(∀ B,Q .normal B→K B)→bj c.P c.Y d.isSome K (ay gs A)):J c (.bT d gs) Q A:=by
 cases d with
 |none=>exact J.bT (cl:=[]) rfl h
 |some on=>exact J.bT (cl:=pt on) hd h
theorem J.ao{y:aN}(hd:vF d gs=true)(h:∀ K:ae→Prop,(∀ B,J c y Q B→K B)→bj c.P c.Y d.isSome K (ay gs A)):J c (.seq (.bT d gs) y) Q A :=
 J.seq (J.bD hd h)
theorem J.rq(hs:List FuncId)(L:ep)(σ:List Nat)(hd:tV hs L on gs (pt on) σ=true)(hi:en L A)(h:∀ K:ae→Prop,(∀ B,Q .normal B→K B)→b9 c.P hs K (ay (lT σ gs) A)):J c (.bT (some on) gs) Q A :=
 J.akY hs L (pt on) σ hd hi h
theorem J.akX(hs:List FuncId)(L:ep)(σ:List Nat)(hd:tW hs L on gs (pt on) σ=true)(hi:en L A)(h:∀ K:ae→Prop,(∀ B,Q .normal B→K B)→b9 c.P hs K (ay (lT σ gs) A)):J c (.bT (some on) gs) Q A :=
 J.akZ hs L (pt on) σ hd hi h
def gD(c:cM):aN→(Exit→ae→Prop)→ae→Prop
 | .seq x y,Q,A=>gD c x (al (fun B=>J c y Q B) Q) A
 | .block id x,Q,A=>gD c x (bP id Q) A
 | .skip,Q,A=>Q .normal A
 | .exit id,Q,A=>Q (.exit id) A
 | .ret,Q,A=>Q .ret A
 | .cond b x y,Q,A=>aj (ab A b) (J c x Q A) (J c y Q A)
 |x,Q,A=>J c x Q A
def aic:aN→Bool
 | .seq _ _ | .block _ _ | .skip | .exit _ | .ret | .cond _ _ _=>true
 |_=>false
theorem gD.vc:∀ (x:aN) {Q:Exit→ae→Prop} {A:ae},gD c x Q A→J c x Q A
 | .seq x y,_,_,h=>J.seq (gD.vc x h)
 | .block id x,_,_,h=>J.block (gD.vc x h)
 | .skip,_,_,h=>J.skip h
 | .exit _,_,_,h=>J.exit h
 | .ret,_,_,h=>J.ret h
 | .cond _ _ _,_,_,h=>J.bI h
 | .bT _ _,_,_,h | .loop _,_,_,h | .scope _,_,_,h | .label,_,_,h | .kU _ _ _ _,_,_,h=>h
theorem J.of{x:aN}(_:aic x=true)(h:gD c x Q A):J c x Q A:=gD.vc x h
theorem aJ :
  (∀ c x y Q A,gD c (.seq x y) Q A=gD c x (al (fun B=>J c y Q B) Q) A)∧(∀ c id x Q A,gD c (.block id x) Q A=gD c x (bP id Q) A)∧(∀ c Q A,gD c .skip Q A=Q .normal A)∧(∀ c id Q A,gD c (.exit id) Q A=Q (.exit id) A)∧(∀ c Q A,gD c .ret Q A=Q .ret A) ∧
  (∀ c b x y Q A,gD c (.cond b x y) Q A=aj (ab A b) (J c x Q A) (J c y Q A))∧(∀ c d gs Q A,gD c (.bT d gs) Q A=J c (.bT d gs) Q A)∧(∀ c x Q A,gD c (.loop x) Q A=J c (.loop x) Q A)∧(∀ c f ps x y Q A,gD c (.kU f ps x y) Q A=J c (.kU f ps x y) Q A) ∧
  (∀ k Q A,al k Q .normal A=k A)∧(∀ k Q A,al k Q .ret A=Q .ret A)∧(∀ k Q A i,al k Q (.exit i) A=Q (.exit i) A)∧(∀ i Q A,bP i Q .normal A=Q .normal A)∧(∀ i Q A,bP i Q .ret A=Q .ret A)∧(∀ i Q A j,bP i Q (.exit j) A=if j=i then Q .normal A else Q (.exit j) A) ∧
  (∀ p q,aj (.bool true) p q=p)∧(∀ p q,aj (.bool false) p q=q)∧(type_of% @xN) :=
 ⟨fun _ _ _ _ _=>rfl,fun _ _ _ _ _=>rfl,fun _ _ _=>rfl,fun _ _ _ _=>rfl,fun _ _ _=>rfl,fun _ _ _ _ _ _=>rfl,fun _ _ _ _ _=>rfl,fun _ _ _ _=>rfl,fun _ _ _ _ _ _ _=>rfl,fun _ _ _=>rfl,fun _ _ _=>rfl,fun _ _ _ _=>rfl,fun _ _ _=>rfl,fun _ _ _=>rfl,fun _ _ _ _=>rfl,
  fun p q=>by simp[aj],fun p q=>by simp[aj],xN⟩
theorem aj.aH{t:Bool}{p q:Prop}(h1:t=true→p)(h2:t=false→q):aj (.bool t) p q:=⟨h1,h2⟩
theorem J.aI{g:aB}{r:List aB}(hd:vF d gs=true)(e:gs=g::r)(h:∀ K:ae→Prop,(∀ B,Q .normal B→K B)→bj c.P c.Y d.isSome K (ay (g::r) A)):J c (.bT d gs) Q A :=
 J.bD hd (e▸h)
theorem bj.aD(L:List Nat){P:Program}{Y:Value→List I→List (Nat×ah)→cV→Prop}{dr:Bool}{x:aN}{K:ae→Prop}{ts:List (Nat×I)}{os:List (Nat×ah)}(hK:∀ B,J c x Q B→K B)(h:J c x Q (ar (gX L ts) os)):bj P Y dr K (.done (ar ts os)) :=
 .done (hK _ (J.fM L h))
theorem b9.aD(L:List Nat){P:Program}{hs:List FuncId}{x:aN}{K:ae→Prop}{ts:List (Nat×I)}{os:List (Nat×ah)}(hK:∀ B,J c x Q B→K B)(h:J c x Q (ar (gX L ts) os)):b9 P hs K (.done (ar ts os)) :=
 .done (hK _ (J.fM L h))
end
end Go.Abs
