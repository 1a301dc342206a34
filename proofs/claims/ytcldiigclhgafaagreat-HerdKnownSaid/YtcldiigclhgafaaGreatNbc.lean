/-
  A part of the proof that the law HerdKnown returns true for every input; conditions: none beyond the statement's own. (part 3 of 7)
-/
import Derived.RangeFuncIn
import Derived.Laws.Externs
import Derived.ProofKit
import Derived.SizedLaws
import Derived.Test.YtcldiigclhgafaaGreatChecked
import Derived.KernelRfl
import Derived.Test.YtcldiigclhgafaaGreatNbb
set_option linter.unusedSimpArgs false
set_option linter.unusedVariables false
set_option maxHeartbeats 16000000
set_option maxRecDepth 100000
namespace Go.Abs
open Go Go.RowKit
open Enc (enc)
mutual
theorem jf{p q:Nat→Bool}(h:∀ n,p n=true→q n=true):∀ x:I,x.only p=true→x.only q=true
 | .agg fs,hx | .tuple fs,hx=>by simp only[I.only] at *;exact iE h fs hx
 | .slice _ es,hx=>by simp only[I.only] at *;exact iE h es hx
 | .ref x,hx=>by simp only[I.only] at *;exact jf h x hx
 | .func _ caps,hx=>by simp only[I.only] at *;exact iE h caps hx
 | .iface _ v,hx=>by simp only[I.only] at *;exact jf h v hx
 | .ptr _ _,hx | .own _ _,hx | .view _ _ _ _ _,hx | .mref _,hx | .dx _,hx=>by simp only[I.only] at *;exact h _ hx
 | .cU ks vs,hx=>by simp only[I.only,Bool.and_eq_true] at *;exact ⟨iE h ks hx.1,iE h vs hx.2⟩
 | .bool _,_ | .int _ _,_ | .cV _,_ | .nilp,_ | .de,_ | .dS,_ | .raw _,_ | .nils _,_ | .c0 _,_ | .undef,_ | .c7,_=>by simp[I.only]
theorem iE{p q:Nat→Bool}(h:∀ n,p n=true→q n=true):∀ xs:List I,I.bP p xs=true→I.bP q xs=true
 | [],_=>rfl
 |x::xs,hx=>by
  simp only[I.bP,Bool.and_eq_true] at *
  exact ⟨jf h x hx.1,iE h xs hx.2⟩
end
theorem ah.jf{p q:Nat→Bool}(h:∀ n,p n=true→q n=true)(x:ah)(hx:x.only p=true):x.only q=true:=by
 cases x with
 |box y=>simp only[ah.only] at *;exact Abs.jf h y hx
 |bT T sz es=>simp only[ah.only] at *;exact iE h es hx
 |dL o=>rfl
 |cM T xs=>rfl
 |ct ks vs=>simp only[ah.only,Bool.and_eq_true] at *;exact ⟨iE h ks hx.1,iE h vs hx.2⟩
 |it ks vs left cur=>simp only[ah.only,Bool.and_eq_true] at *;exact ⟨iE h ks hx.1,iE h vs hx.2⟩
theorem I9{x:I}(h:x.br=true):x.cm=true:=by
 cases x <;>first | rfl | simp[I.br] at h
theorem u6{aB:Bool}{A0:ab}{ρ:List (Nat×Nat)}{os:List (Nat×ah)} : ∀ xs:List I,I.bU xs=true→js aB A0 ρ os xs xs
 | [],_=>trivial
 |x::xs,h=>by
  simp only[I.bU,Bool.and_eq_true] at h
  exact ⟨.inl ⟨(rB _ x h.1).symm,jR _ x h.1,I9 h.1⟩,u6 xs h.2⟩
structure fr (os os':List (Nat×ah)):Prop where
 same:∀ m,ao os' m=ao os m
 ok:∀ m x,ai os' m=some x→x.only (ao os')=true∧x.eO=true
 og:∀ m,ao os m=true→1000000≤m
def uQ(P:Program)(g:FuncId)(caps:List I)(N:Nat)(item:Nat→List I):Prop :=
 ∀ (Y:Value→List I→List (Nat×ah)→cN→Prop) (v:Value) (aj:Nat→List (Nat×ah)→Prop) (Ix:List (Nat×ah)→Prop) (os:List (Nat×ah)),v.oneCell'=true →
  (∀ k os' post,k<N→aj k os'→(∀ r os2,(r=.bool true∧aj (k+1) os2)∨(r=.bool false∧Ix os2)→post r os2)→Y v (item k) os' post) →
  (∀ k os',aj k os'→fr os os')→(∀ os',Ix os'→fr os os')→aj 0 os→ky P g Y (.raw v::caps) os (fun r os'=>r=.tuple []∧(aj N os'∨Ix os'))
def dc(o:Obj)(os:List (Nat×ah)):List (Nat×ah):=(1999999,.dL o)::os
theorem lK(o:Obj)(os:List (Nat×ah))(m:Nat):ao (dc o os) m=(decide (m=1999999)||ao os m):=by
 simp only[dc,ao,ai]
 by_cases h:m=1999999 <;>simp[h]
theorem pK(o:Obj)(os:List (Nat×ah))(m:Nat):ai (dc o os) m=if m=1999999 then some (.dL o) else ai os m:=rfl
theorem fr.dc{os os':List (Nat×ah)}(h:fr os os')(o o':Obj):fr (dc o os) (dc o' os'):=by
 refine ⟨fun m=>by rw[lK,lK,h.same],fun m x hx =>?_,fun m hm =>?_⟩
 ·rw[pK] at hx
  split at hx
  ·cases hx;exact ⟨rfl,rfl⟩
  ·obtain ⟨h1,h2⟩:=h.ok m x hx
   exact ⟨x.jf (fun n hn=>by rw[lK,hn];simp) h1,h2⟩
 ·rw[lK] at hm
  simp only[Bool.or_eq_true,decide_eq_true_eq] at hm
  rcases hm with rfl | hm
  ·decide
  ·exact h.og m hm
def p8:List Nat→List I→List (Nat×I)→List (Nat×I)
 |p::ps,v::vs,ts=>p8 ps vs ((p,v)::ts)
 |_,_,ts=>ts
def l7(ρ:List (Nat×Nat))(p:Nat→Bool)(ts:List (Nat×I)):List (Nat×I)→Prop
 | []=>True
 |(k,v)::r=>bH ts k=v.aM (bA ρ)∧v.only p=true∧l7 ρ p ts r
theorem MF{ρ:List (Nat×Nat)}{p:Nat→Bool}{ts:List (Nat×I)} : ∀ {tsR:List (Nat×I)},l7 ρ p ts tsR→∀ k,bH tsR k=.c7∨(bH ts k=(bH tsR k).aM (bA ρ)∧(bH tsR k).only p=true)
 | [],_,k=>.inl rfl
 |(j,v)::r,h,k=>by
  simp only[l7] at h
  simp only[bH]
  split
  ·rename_i hk;subst hk;exact .inr ⟨h.1,h.2.1⟩
  ·exact MF h.2.2 k
section
variable {c:cJ} {a:Act} {w:World} {D:aQ} {E:aU}
theorem aS.yR{A:ab}(h:aS c A a w D E){n b:Nat}{o o':Obj}(hn:A.o n=some (.dL o))(ar:E n=some (.op b))(ho:pH o'=true):aS c (A.aN n (.dL o')) a (w.putObj b o') D E:=by
 have hob:=h.bQ n
 rw[hn] at hob
 obtain ⟨b',k1,k2,k3,k4,k5⟩:=hob
 rw[ar] at k1
 cases k1
 have hnc:o.isCells=false:=by cases o <;>first | rfl | cases k4
 have hlt:b<w.heap.size:=fR k3
 have hl:dN w D E (w.putObj b o') D E:=⟨fun _ _ h=>h,fun b1 o1 v _ hv=>vu k3 hnc hv,fun _ _ _ h=>h,fun _ aD l h=>⟨aD,l,h,Nat.le_refl _,fun _=>rfl⟩,fun _ _ h=>h,fun _ _ h=>h,fun b1 es ck hd hm=>(World.putObj_heap_other (fun e1=>k5 0 (by rw[←e1];exact hd))).trans hm⟩
 refine ⟨h.sz,h.eQ.mono fun B _ hB=>(World.putObj_heap_other (fun e=>by rw[e,k3] at hB;cases hB;cases k4)).trans hB,fun t=>aT.bJ hl (h.dZ t),h.dO.trans ⟨rfl,rfl,rfl,by simp,fun k hk=>World.putObj_heap_other (fun e=>hk (e▸k2))⟩,h.c5,
  fun b1 o1 hd=>by have:=h.c9 b1 o1 hd;simpa using this,fun m =>?_,h.cS,h.dR,h.eV,h.cF,h.eX,h.kZ hl⟩
 simp only[ab.aN]
 by_cases hm:m=n
 ·subst hm
  simp only[if_true,c8]
  exact ⟨b,ar,k2,World.putObj_heap_same hlt,ho,k5⟩
 ·simp only[if_neg hm]
  exact (h.bQ m).bJ hl rfl fun e b1 he hb=>⟨World.putObj_heap_other (fun e1=>hm (h.cS m n e _ b1 he ar hb (by rw[e1];rfl))),fun _ ho=>ho⟩
theorem aS.Xi{A:ab}(h:aS c A a w D E){n b:Nat}(ar:E n=some (.op b)):aS c ⟨A.t,fun m=>if m=n then none else A.o m⟩ a w D (fun m=>if m=n then none else E m):=by
 have hne:∀ {m:Nat} {e:bR},E m=some e→(∀ b,e≠.op b)→m≠n:=fun he h2 e'=>by
  subst e';rw[ar] at he;cases he;exact h2 _ rfl
 have hl:dN w D E w D (fun m=>if m=n then none else E m):=by
  refine ⟨fun _ _ h=>h,fun _ _ _ _ h=>h,fun m b aR he =>?_,fun m aD l he=>⟨aD,l,?_,Nat.le_refl _,fun _=>rfl⟩,fun m b he =>?_,fun m b he =>?_,fun _ _ _ _ h=>h⟩
  ·simp only[if_neg (hne he (fun b=>by simp))];exact he
  ·simp only[if_neg (hne he (fun b=>by simp))];exact he
  ·simp only[if_neg (hne he (fun b=>by simp))];exact he
  ·simp only[if_neg (hne he (fun b=>by simp))];exact he
 refine ⟨h.sz,h.eQ,fun t=>aT.bJ hl (h.dZ t),h.dO,h.c5,h.c9,fun m =>?_,fun m m' e e' b h1 h2 h3 h4 =>?_,fun m e hm =>?_,h.eV,h.cF,h.eX,h.fE⟩
 ·by_cases hm:m=n
  ·simp only[hm,if_true,c8]
  ·simp only[if_neg hm]
   exact (h.bQ m).bJ hl (by simp only[if_neg hm]) fun _ _ _ _=>⟨rfl,fun _ ho=>ho⟩
 ·split at h1
  ·cases h1
  ·split at h2
   ·cases h2
   ·exact h.cS m m' e e' b h1 h2 h3 h4
 ·by_cases hmn:m=n
  ·left;simp only[hmn,if_true]
  ·simp only[if_neg hmn];exact h.dR m e hm
theorem aS.enter{ts:List (Nat×I)}{os0:List (Nat×ah)}(h:aS c (aq ts os0) a w D E)(hfree:ai os0 999999=none)(hE0:c.dE 999999=none){o:Obj}(ho:pH o=true) :
  ∃ E1,aS c (aq ts ((999999,.dL o)::os0)) { a with defers := { target:=.collected w.heap.size,args := #[] } :: a.defers } ((w.alloc (.deferred (some []))).alloc o) D E1∧E1 999999=some (.op (w.heap.size+1))∧∀ xs vs,aI w D E xs vs→aI ((w.alloc (.deferred (some []))).alloc o) D E1 xs vs:=by
 have hb:Below w.heap.size w ((w.alloc (.deferred (some []))).alloc o):=((Below.refl _ w).alloc (Nat.le_refl _) _).alloc (by simp) _
 have h1:=h.grow (D':=D) hb (fun _ _ h=>h) (fun _ _ h _=>h) (fun b o' hd=>by have:=h.c9 b o' hd;simp;omega)
 obtain ⟨W,hW⟩:∃ W,W=(w.alloc (.deferred (some []))).alloc o:=⟨_,rfl⟩
 have hL:W.heap[w.heap.size+1]?=some o:=by
  rw[hW];have:=World.alloc_heap_new (w.alloc (.deferred (some []))) o;rwa [World.size_alloc] at this
 have hK:W.heap[w.heap.size]?=some (.deferred (some [])):=by
  rw[hW];exact (Below.heap_alloc _ _ _ (by simp)).trans (World.alloc_heap_new w _)
 rw[←hW] at h1 hb ⊢
 have hEn:E 999999=none:=by have:=h.bQ 999999;simp only[aq,hfree] at this;exact this
 have hl:dN W D E W D (fun m=>if m=999999 then some (.op (w.heap.size+1)) else E m):=by
  refine ⟨fun _ _ h=>h,fun _ _ _ _ h=>h,fun m b aR he =>?_,fun m aD l he=>⟨aD,l,?_,Nat.le_refl _,fun _=>rfl⟩,fun m b he =>?_,fun m b he =>?_,fun _ _ _ _ h=>h⟩
  all_goals
   have:m≠999999:=fun e=>by rw[e,hEn] at he;cases he
   simp only[if_neg this];exact he
 have hsz:c.fh.heap.size≤w.heap.size:=h.dO.size
 have nb:∀ {m:Nat} {e:bR} {b:Nat},E m=some e→e.aD=some b→b<w.heap.size:=fun he hb'=>h.fQ he hb'
 refine ⟨fun m=>if m=999999 then some (.op (w.heap.size+1)) else E m,⟨h1.sz,?_,fun t=>aT.bJ hl (h1.dZ t),h1.dO,h1.c5,h1.c9,fun m =>?_,fun m m' e e' b g1 g2 g3 g4 =>?_,fun m e hm =>?_,h1.eV,h1.cF,h1.eX,h1.fE⟩,by simp,fun xs vs hx=>aI.bJ hl xs vs (aI.bJ (dN.grow hb fun _ _ h=>h) xs vs hx)⟩
 ·obtain ⟨Bs,k1,k2,k3⟩:=h1.eQ
  refine ⟨w.heap.size::Bs,by simp only[List.map_cons];rw[←k1],List.nodup_cons.2 ⟨fun hin =>?_,k2⟩,fun B hB =>?_⟩
  ·obtain ⟨Bs',j1,_,j3⟩:=h.eQ
   have e1:Bs=Bs':=by
    have:Bs.map (fun B=>({ target:=.collected B,args := #[] } : Deferred))=Bs'.map (fun B => { target:=.collected B,args := #[] }):=by rw[←k1,←j1]
    exact (List.map_inj_right (fun x y hxy=>by simpa using hxy)).1 this
   rw[e1] at hin
   have:=fR (j3 _ hin).2
   omega
  ·rcases List.mem_cons.1 hB with rfl | hB
   ·exact ⟨hsz,hK⟩
   ·exact k3 B hB
 ·simp only[aq,ai]
  by_cases hm:m=999999
  ·subst hm
   simp only[if_true,c8]
   exact ⟨_,rfl,.inl (by omega),hL,ho,fun o' hd=>by have:=h.c9 _ o' hd;omega⟩
  ·simp only[if_neg hm]
   exact (h1.bQ m).bJ hl (by simp only[if_neg hm]) fun _ _ _ _=>⟨rfl,fun _ ho=>ho⟩
 ·by_cases hm:m=999999 <;>by_cases hm':m'=999999
  ·rw[hm,hm']
  ·simp only[if_pos hm,Option.some.injEq] at g1
   simp only[if_neg hm'] at g2
   subst g1
   simp only[bR.aD,Option.some.injEq] at g3
   have:=nb g2 g4;omega
  ·simp only[if_neg hm] at g1
   simp only[if_pos hm',Option.some.injEq] at g2
   subst g2
   simp only[bR.aD,Option.some.injEq] at g4
   have:=nb g1 g3;omega
  ·simp only[if_neg hm] at g1;simp only[if_neg hm'] at g2;exact h.cS m m' e e' b g1 g2 g3 g4
 ·have hmn:m≠999999:=fun e=>by rw[e,hE0] at hm;cases hm
  simp only[if_neg hmn]
  exact h.dR m e hm
theorem c8.mD{M M':Nat→Prop}{n:Nat}{x:Option ah}(h:c8 M w D E n x)(hM:∀ e b,E n=some e→e.aD=some b→M' b):c8 M' w D E n x:=by
 unfold c8 at *
 split
 ·exact h
 ·obtain ⟨b,cs,T,h1,_,h3⟩:=h
  exact ⟨b,cs,T,h1,hM _ b h1 rfl,h3⟩
 ·obtain ⟨aD,h1,h2,h3⟩:=h
  refine ⟨aD,h1,h2,?_⟩
  split
  ·exact h3
  ·obtain ⟨cs,pre,rest,_,h4⟩:=h3
   exact ⟨cs,pre,rest,hM _ _ h1 rfl,h4⟩
 ·obtain ⟨b,h1,_,h3⟩:=h
  exact ⟨b,h1,hM _ b h1 rfl,h3⟩
 ·obtain ⟨b,es,ck,h1,_,h3⟩:=h
  exact ⟨b,es,ck,h1,hM _ b h1 rfl,h3⟩
 ·obtain ⟨r,b,es,ck,si,se,la,h1,_,h3⟩:=h
  exact ⟨r,b,es,ck,si,se,la,h1,hM _ r h1 rfl,h3⟩
 ·obtain ⟨aD,h1,h2,h3⟩:=h
  refine ⟨aD,h1,h2,?_⟩
  split
  ·exact h3
  ·obtain ⟨cs,m,_,h4⟩:=h3
   exact ⟨cs,m,hM _ _ h1 rfl,h4⟩
theorem aS.Ka{os:List (Nat×ah)} : ∀ (ps:List Nat) (vs:List Value) (xs:List I) (ts:List (Nat×I)) (a:Act),aS c (aq ts os) a w D E→(∀ p∈ps,p<c.n)→aI w D E xs vs→ps.length=vs.length →
  aS c (aq (p8 ps xs ts) os) { a with tmps:=(ps.zip vs).foldl (fun t q=>t.setIfInBounds q.1 q.2) a.tmps } w D E
 | [],[],xs,ts,a,h,_,hv,_=>by
  cases xs with
  |nil=>exact h
  |cons x xs=>simp[aI] at hv
 | [],_::_,_,_,_,_,_,_,hl=>by simp at hl
 |_::_,[],_,_,_,_,_,_,hl=>by simp at hl
 |p::ps,v::vs,xs,ts,a,h,hp,hv,hl=>by
  cases xs with
  |nil=>simp[aI] at hv
  |cons x xs =>
   simp only[aI] at hv
   obtain ⟨v',rest,cs,e,h1,h2,h3⟩:=hv
   simp only[List.cons.injEq] at e
   obtain ⟨rfl,rfl⟩:=e
   have h4:=h.put (hp p (by simp)) (mE h1 h2)
   rw[tu] at h4
   have:=aS.Ka ps vs xs ((p,x)::ts) (a.put (some p) v) h4 (fun q hq=>hp q (by simp[hq])) h3 (by simpa using hl)
   exact this
end
end Go.Abs
namespace Go.Abs
open Go Go.RowKit
def jm:b7→Bool
 | .mv _ | .pick .. | .bin .. | .eqv .. | .conv .. | .un .. | .fl .. | .ix .. | .lenT _ | .bld .. | .ext .. | .mk .. | .nilC _ | .ptrE .. =>true
 | .ld .. | .fa .. | .ia .. | .is .. | .len _ | .va .. | .bs .. | .sl .. | .cap _ | .bs0 _ | .lk .. =>true
 |_=>false
def oz:b7→Bool
 | .alloc _ | .box _ | .bg .. | .call .. | .eL .. | .cL .. =>true
 |op=>jm op
def pI(hs:List FuncId):b7→Bool
 | .alloc _ | .box _=>true
 | .call f _ => !hs.contains f
 |op=>jm op
abbrev ez:=List (Nat×List Nat)
def jb(L:ez)(s:Nat):Option (List Nat):=(L.find? fun q=>q.1==s).map (·.2)
def ew(L:ez)(A:ab):Prop:=∀ s ns,jb L s=some ns→(A.t s).only (fun n=>ns.contains n)=true
def qW(L:ez):aL→Option (List Nat)
 | .t s=>jb L s
 | .c x=>if x.br then some [] else none
def uw(a:Option (List Nat))(ns:List Nat):Bool:=match a with
 |some ms=>ms.all fun m=>ns.contains m
 |none=>false
def im(L:ez)(g:az):Bool:=match g.dst with
 |none=>true
 |some d=>match jb L d with
  |none=>true
  |some ns=>match g.op with
   | .mv x | .nilC x | .fa _ _ x | .ia _ _ x _=>uw (qW L x) ns
   | .bin .. | .len _ | .bs .. | .bs0 _ | .conv .. | .lenT _=>true
   | .box _ | .alloc _=>ns.contains d
   |_=>false
def nB:b7→Option (List Nat)
 | .ld _ (.t x) | .fa _ _ (.t x) | .ia _ _ (.t x) _ | .is _ (.t x) _ | .len (.t x) | .va _ _ (.t x) | .sl _ (.t x) _ _ _ | .cap (.t x) | .lk _ _ _ (.t x) _=>some [x]
 | .bs _ ps=>if (ps.all fun x=>match x with | .t _=>true | .c _=>false)=true then some (jW ps) else none
 | .bs0 _=>some []
 |op=>if op.gE=0∧jm op=true then some [] else none
def r9(L:ez)(g:az)(p:Nat→Bool):Bool:=match nB g.op with
 |some xs=>xs.all fun s=>match jb L s with | some ns=>ns.all p | none=>false
 |none=>false
def oA(hs:List FuncId)(L:ez)(g h:az):Bool:=pI hs h.op||match h.op with
 | .bg _ (.t y) _=>match nB g.op with
  |some []=>true
  |_=>match jb L y with
   |some ms=>r9 L g fun n => !ms.contains n
   |none=>false
 | .bg .. =>match nB g.op with
  |some []=>true
  |_=>false
 | .cL _ _ _ _ s _=>r9 L g (fun _=>false)||uw (qW L s) []
 |_=>false
def nw(hs:List FuncId)(L:ez)(g h:az):Bool:=jm g.op&&(oA hs L g h&&((match g.dst with
  |some d => !h.c6.contains d&&h.dst != some d
  |none=>true)&&(match h.dst with
  |some d => !g.c6.contains d
  |none=>true)))
theorem xa{op:b7}(h:jm op=true)(A:ab)(dst:Option Nat)(rest:List az)(k:ab→cI):bp A dst op rest k=cP (bu A op) fun v=>k (A.aP dst v):=by
 cases op <;>first | rfl | cases h
inductive cd (P:Program) (hs:List FuncId) (K:ab→Prop):cI→Prop where
 |done {A:ab} : K A→cd P hs K (.done A)
 |flat {f:FuncId} {avs cargs:List I} {a2:Option (List I)} {dst:Option Nat} {rest:List az} {A:ab} (r:I):av P f cargs r→r.flat=true→cd P hs K (ay rest (A.aP dst r))→cd P hs K (.call f avs (some cargs) a2 dst rest A)
 |lead {f:FuncId} {avs cargs:List I} {a1:Option (List I)} {dst:Option Nat} {rest:List az} {A:ab} (r:I):av P f cargs r→cd P hs K (ay rest (A.aP dst r))→cd P hs K (.call f avs a1 (some cargs) dst rest A)
 |bQ {f:FuncId} {avs:List I} {a1 a2:Option (List I)} {dst:Option Nat} {rest:List az} {ts:List (Nat×I)} {os0:List (Nat×ah)} (ρ:List (Nat×Nat)) (cargs:List I) (post:cN):cz P f cargs [] post →
   fU ρ [] os0→js false (aq ts os0) ρ [] avs cargs→(∀ r os',post r os'→ev false ρ [] os0 r os') →
   (∀ r os',post r os'→cd P hs K (ay rest ((aq ts (dC ρ os'++os0)).aP dst (r.aM (bA ρ)))))→cd P hs K (.call f avs a1 a2 dst rest (aq ts os0))
 |any {p:Nat→Prop} {k:Nat→cI} : (∀ m,p m→cd P hs K (k m))→cd P hs K (.any p k)
 |xX {f:FuncId} {avs:List I} {a1 a2:Option (List I)} {dst:Option Nat} {rest:List az} {ts:List (Nat×I)} {os0:List (Nat×ah)} (aB:Bool) (ρ:List (Nat×Nat)) (os:List (Nat×ah)) (cargs:List I) (post:cN):hs.contains f=true→cz P f cargs os post →
   fU ρ os os0→js aB (aq ts (cw (jQ ρ os) os0)) ρ os avs cargs→(∀ r os',post r os'→ev aB ρ os os0 r os') →
   (∀ r os',post r os'→cd P hs K (ay rest ((aq ts (dC ρ os'++os0)).aP dst (r.aM (bA ρ)))))→cd P hs K (.call f avs a1 a2 dst rest (aq ts os0))
theorem Xh(os:List (Nat×ah)):cw [] os=os:=by simp[cw]
section
variable {P:Program} {hs:List FuncId} {K:ab→Prop} {Y:Value→List I→List (Nat×ah)→cN→Prop}
theorem cd.zV{p:Nat→Prop}{k:Nat→cI}(h:cd P hs K (.any p k)):∀ m,p m→cd P hs K (k m):=by cases h;assumption
theorem ew.put{L:ez}{A B:ab}(h:ew L A)(ht:∀ k,B.t k=A.t k){dst:Option Nat}{v:I}(hv:∀ d,dst=some d→∀ ns,jb L d=some ns→v.only (fun n=>ns.contains n)=true):ew L (B.aP dst v):=by
 intro s ns hs'
 cases dst with
 |none=>exact (ht s).symm▸h s ns hs'
 |some d =>
  simp only[ab.aP,ab.put]
  by_cases hd:s=d
  ·rw[if_pos hd];exact hv d rfl ns (hd▸hs')
  ·rw[if_neg hd,ht];exact h s ns hs'
theorem rL{L:ez}{A:ab}(h:ew L A){x:aL}{ns:List Nat}(hx:uw (qW L x) ns=true):(ae A x).only (fun n=>ns.contains n)=true:=by
 cases x with
 |c x =>
  simp only[qW] at hx
  split at hx
  ·rename_i hc;exact jR _ x hc
  ·cases hx
 |t s =>
  simp only[qW] at hx
  cases hl:jb L s with
  |none=>rw[hl] at hx;cases hx
  |some ms =>
   rw[hl] at hx
   simp only[uw,List.all_eq_true] at hx
   exact jf (fun n hn=>hx n (by simpa using hn)) _ (h s ms hl)
theorem PK{op:BinOp}{x y v:I}(p:Nat→Bool)(h:cE op x y=some v):v.only p=true:=by
 unfold cE at h
 (repeat' split at h) <;>first | (cases h;done) | (simp only[Option.some.injEq] at h;subst h;rfl)
theorem ya{p:Nat→Bool} : ∀ {xs:List I} {i:Nat} {x:I},I.bP p xs=true→xs[i]?=some x→x.only p=true
 | [],_,_,_,h=>by simp at h
 |a::xs,0,x,h,e=>by
  simp only[I.bP,Bool.and_eq_true] at h
  simp only[List.getElem?_cons_zero,Option.some.injEq] at e
  exact e▸h.1
 |a::xs,i+1,x,h,e=>by
  simp only[I.bP,Bool.and_eq_true] at h
  exact ya (xs:=xs) h.2 (by simpa using e)
theorem JK{L:ez}{A:ab}{g:az}(h:ew L A)(hg:im L g=true){v:I}(hv:bu A g.op=some v):∀ d,g.dst=some d→∀ ns,jb L d=some ns→v.only (fun n=>ns.contains n)=true:=by
 intro d hd ns hn
 obtain ⟨dst,op,gd⟩:=g
 simp only at hd hv
 subst hd
 simp only[im,hn] at hg
 cases op <;>simp only at hg <;>(try (cases hg;done)) <;>simp only[bu] at hv <;>(try (cases hv;done))
 case mv x=>simp only[Option.some.injEq] at hv;exact hv▸rL h hg
 case nilC x =>
  have:=rL h hg
  generalize ae A x=u at hv this
  cases u <;>simp only[mF] at hv <;>first | (cases hv;done) | (simp only[Option.some.injEq] at hv;exact hv▸this)
 case bin op x y=>exact PK _ hv
 case conv k x=>split at hv <;>first | (cases hv;done) | (simp only[Option.some.injEq] at hv;subst hv;rfl)
 case lenT x=>split at hv <;>first | (cases hv;done) | (simp only[Option.some.injEq] at hv;subst hv;rfl)
 case len x=>(repeat' split at hv) <;>first | (cases hv;done) | (simp only[Option.some.injEq] at hv;subst hv;rfl)
 case bs0 e=>simp only[Option.some.injEq] at hv;subst hv;rfl
 case bs e ps =>
  split at hv
  ·split at hv
   ·rename_i hc
    simp only[Option.some.injEq] at hv;subst hv
    simp only[I.only];exact kg _ _ hc.2
   ·cases hv
  ·cases hv
 case fa f off x =>
  have hx:=rL h hg
  split at hv
  ·rename_i fs he
   rw[he] at hx
   simp only[I.only] at hx
   split at hv
   ·rename_i u hu
    split at hv
    ·simp only[Option.some.injEq] at hv;subst hv
     simp only[I.only];exact ya hx hu
    ·cases hv
   ·cases hv
  ·rename_i n q he
   rw[he] at hx
   simp only[I.only] at hx
   split at hv
   ·split at hv
    ·simp only[Option.some.injEq] at hv;subst hv;simpa only[I.only] using hx
    ·cases hv
   ·cases hv
  ·cases hv
 case ia n esz x i =>
  have hx:=rL h hg
  split at hv
  case h_2=>cases hv
  split at hv
  case isFalse=>cases hv
  split at hv
  ·rename_i fs he
   rw[he] at hx
   simp only[I.only] at hx
   split at hv
   ·simp only[Option.map_eq_some_iff] at hv
    obtain ⟨u,hu,rfl⟩:=hv
    simp only[I.only];exact ya hx hu
   ·cases hv
  ·rename_i m q he
   rw[he] at hx
   simp only[I.only] at hx
   split at hv
   ·split at hv
    ·simp only[Option.some.injEq] at hv;subst hv;simpa only[I.only] using hx
    ·cases hv
   ·cases hv
  ·cases hv
def r0(A:ab)(dst:Option Nat)(s:I)(B:ab):Prop:=(∀ t,dst≠some t→B.t t=A.t t)∧(s.only (fun _=>false)=true→ef A B)
def nQ(A:ab)(dst:Option Nat)(s:I)(R:(ab→cI)→cI):Prop :=
 (∀ k,R k=.fail)∨(∃ B,(∀ k,R k=k B)∧r0 A dst s B)∨∃ (p:Nat→Prop) (bl:Nat→ab),(∀ k,R k=.any p fun m=>k (bl m))∧∀ m,r0 A dst s (bl m)
theorem rv{A B:ab}{dst:Option Nat}{v:I}{t:Nat}(ht:∀ k,B.t k=A.t k)(h:dst≠some t):(B.aP dst v).t t=A.t t:=by
 cases dst with
 |none=>exact ht t
 |some d =>
  have:t≠d:=fun e=>h (by rw[e])
  simp only[ab.aP,ab.put,if_neg this]
  exact ht t
theorem Ph(A:ab)(dst:Option Nat)(esz bytes:Nat)(z s:I)(es ys:List I):nQ A dst s (gj A dst esz bytes z es ys):=by
 cases dst with
 |none=>exact .inl fun _=>rfl
 |some d =>
  cases ho:A.o d with
  |some y=>exact .inl fun k=>by simp only[gj,ho]
  |none =>
   by_cases hc:(es.length+ys.length)*bytes≤140737488355328∧es.length+ys.length≤maxLen
   ·refine .inr (.inr ⟨_,fun m=>(A.aN d (.box (.agg (es++(ys++List.replicate m z))))).aP (some d) (.view d [] esz 0 (es.length+ys.length)),fun k=>by simp only[gj,ho];rw[if_pos hc],fun m=>⟨fun t ht=>rv (A:=A) (B:=A.aN d _) (fun _=>rfl) ht,fun _ n y hy =>?_⟩⟩)
    have:n≠d:=fun e=>by rw[e,ho] at hy;cases hy
    rw[iG]
    simp only[ab.aN,if_neg this];exact hy
   ·exact .inl fun k=>by simp only[gj,ho];rw[if_neg hc]
theorem Pk(A:ab)(dst:Option Nat)(esz bytes:Nat)(z s:I)(es ys:Option (List I)):nQ A dst s (fm A dst esz bytes z s es ys):=by
 cases es with
 |none=>exact .inl fun _=>rfl
 |some es =>
  cases ys with
  |none=>exact .inl fun _=>rfl
  |some ys =>
   by_cases h0:ys=[]
   ·exact .inr (.inl ⟨A.aP dst s,fun k=>by simp only[fm,if_pos h0],fun t ht=>rv (A:=A) (fun _=>rfl) ht,fun _ n y hy=>by rw[iG];exact hy⟩)
   ·have gg:=fun s'=>Ph A dst esz bytes z s' es ys
    cases s
    case nils=>simp only[nQ,fm,if_neg h0];exact gg _
    case c0=>simp only[nQ,fm,if_neg h0];exact gg _
    case view n p sz lo l =>
     cases ho:A.o n with
     |none=>exact .inl fun k=>by simp only[fm,if_neg h0,ho]
     |some y =>
      cases y with
      |box b =>
       cases hb:b.at p with
       |none=>exact .inl fun k=>by simp only[fm,if_neg h0,ho,hb]
       |some c =>
        cases c
        case agg fs =>
         by_cases h1:lo+l+ys.length≤fs.length
         ·by_cases h2:sz=esz∧I.cT ys=I.cT ((fs.drop (lo+l)).take ys.length)
          ·exact .inr (.inl ⟨(A.aN n (.box (iI b p (lo+l) fs ys))).aP dst (.view n p esz lo (l+ys.length)),fun k=>by simp only[fm,if_neg h0,ho,hb,if_pos h1];rw[if_pos h2],fun t ht=>rv (A:=A) (B:=A.aN n _) (fun _=>rfl) ht,fun h=>by simp[I.only] at h⟩)
          ·exact .inl fun k=>by simp only[fm,if_neg h0,ho,hb,if_pos h1];rw[if_neg h2]
         ·simp only[nQ,fm,if_neg h0,ho,hb,if_neg h1];exact gg _
        all_goals exact .inl fun k=>by simp only[fm,if_neg h0,ho,hb]
      |_=>exact .inl fun k=>by simp only[fm,if_neg h0,ho]
    all_goals exact .inl fun k=>by simp only[fm,if_neg h0]
theorem z6(A:ab)(dst:Option Nat)(e esz bytes:Nat)(z:I)(s x:aL)(rest:List az):nQ A dst (ae A s) (bp A dst (.cL e esz bytes z s x) rest):=by
 generalize hs:ae A s=y7
 cases y7
 case own n l =>
  cases hx:ae A x
  case slice sz ys =>
   cases ho:A.o n with
   |none=>exact .inl fun k=>by simp only[bp,hs,hx,ho]
   |some y =>
    cases y with
    |bT T sz' es =>
     by_cases hc:x0 e esz bytes l sz ys T sz' es
     ·exact .inr (.inl ⟨(A.aN n (.bT e esz (es++ys))).aP dst (.own n (es.length+ys.length)),fun k=>by simp only[bp,hs,hx,ho];rw[if_pos hc],fun t ht=>rv (A:=A) (B:=A.aN n _) (fun _=>rfl) ht,fun h=>by simp[I.only] at h⟩)
     ·exact .inl fun k=>by simp only[bp,hs,hx,ho];rw[if_neg hc]
    |cM T xs =>
     by_cases hc:x1 e esz bytes l ys T xs z
     ·exact .inr (.inl ⟨(A.aN n (.cM e (xs++qQ ys))).aP dst (.own n (xs.length+ys.length)),fun k=>by simp only[bp,hs,hx,ho];rw[if_pos hc],fun t ht=>rv (A:=A) (B:=A.aN n _) (fun _=>rfl) ht,fun h=>by simp[I.only] at h⟩)
     ·exact .inl fun k=>by simp only[bp,hs,hx,ho];rw[if_neg hc]
    |_=>exact .inl fun k=>by simp only[bp,hs,hx,ho]
  all_goals exact .inl fun k=>by simp only[bp,hs,hx]
 all_goals (simp only[nQ,bp,hs];exact Pk ..)
theorem yk{A:ab}{d:Nat}{v:I}{n:Nat}{y:ah}{dst:Option Nat}{u:I}(h:dst≠some d):((A.put d v).aN n y).aP dst u=((A.aN n y).aP dst u).put d v:=by
 cases dst with
 |none=>rfl
 |some e =>
  have:e≠d:=fun he=>h (by rw[he])
  simp only[ab.aP,ab.put,ab.aN,ab.mk.injEq,and_true]
  funext k
  by_cases h1:k=e <;>by_cases h2:k=d <;>simp_all
theorem akG{A:ab}{d:Nat}{v:I}{dst:Option Nat}{u:I}(h:dst≠some d):(A.put d v).aP dst u=(A.aP dst u).put d v:=by
 cases dst with
 |none=>rfl
 |some e =>
  have:e≠d:=fun he=>h (by rw[he])
  simp only[ab.aP,ab.put,ab.mk.injEq,and_true]
  funext k
  by_cases h1:k=e <;>by_cases h2:k=d <;>simp_all
theorem Pj{A:ab}{d:Nat}{v:I}{dst:Option Nat}(h:dst≠some d)(esz bytes:Nat)(z:I)(es ys:List I)(k:ab→cI):gj (A.put d v) dst esz bytes z es ys k=gj A dst esz bytes z es ys fun B=>k (B.put d v):=by
 cases dst with
 |none=>rfl
 |some e =>
  simp only[gj]
  have:(A.put d v).o=A.o:=rfl
  rw[this]
  cases A.o e with
  |some _=>rfl
  |none =>
   simp only
   split
   ·simp only[yk h]
   ·rfl
theorem Pl{A:ab}{d:Nat}{v:I}{dst:Option Nat}(h:dst≠some d)(esz bytes:Nat)(z s:I)(es ys:Option (List I))(k:ab→cI):fm (A.put d v) dst esz bytes z s es ys k=fm A dst esz bytes z s es ys fun B=>k (B.put d v):=by
 have ho:(A.put d v).o=A.o:=rfl
 cases es with
 |none=>rfl
 |some es =>
  cases ys with
  |none=>rfl
  |some ys =>
   simp only[fm]
   split
   ·rw[akG h]
   ·cases s <;>simp only[Pj h,ho]
    rename_i n p sz lo l
    cases A.o n with
    |none=>rfl
    |some y =>
     cases y with
     |box b =>
      simp only
      cases b.at p with
      |none=>rfl
      |some c =>
       cases c <;>simp only[yk h]
     |_=>rfl
theorem Pn{A:ab}{d:Nat}{v:I}{dst:Option Nat}(h:dst≠some d){e esz bytes:Nat}{z:I}{s x:aL}(hag:ea A (A.put d v) (s.sl++x.sl))(rest rest':List az)(k:ab→cI) :
  bp (A.put d v) dst (.cL e esz bytes z s x) rest k=bp A dst (.cL e esz bytes z s x) rest' fun B=>k (B.put d v):=by
 have ho:(A.put d v).o=A.o:=rfl
 have hsrc:∀ y,eC (A.put d v) esz y=eC A esz y:=fun y=>by cases y <;>rfl
 simp only[bp,da hag.l,da hag.r,hsrc]
 cases ae A s <;>simp only[Pl h]
 rename_i n l
 cases ae A x <;>simp only[ho]
 cases A.o n with
 |none=>rfl
 |some y=>cases y <;>simp only[yk h]
theorem cd.Ct{L:ez}{f:FuncId}{avs:List I}{a1 a2:Option (List I)}{dst:Option Nat}{rest:List az}{A:ab}(hi:ew L A)(hd:∀ d,dst=some d→jb L d=none)(h:cd P hs K (.call f avs a1 a2 dst rest A)) :
  bj P Y false (fun B=>cd P hs K (ay rest B)∧ew L B) (.call f avs a1 a2 dst [] A):=by
 have no:∀ {v:I},∀ d,dst=some d→∀ ns,jb L d=some ns→v.only (fun n=>ns.contains n)=true:=fun d e ns hn=>by rw[hd d e] at hn;cases hn
 cases h with
 |flat r hc hf hw=>exact .flat r hc hf (.done ⟨hw,hi.put (fun _=>rfl) no⟩)
 |lead r hc hw=>exact .lead r hc (.done ⟨hw,hi.put (fun _=>rfl) no⟩)
 |bQ ρ cargs post hc hg ha hb hw=>exact .bQ false ρ [] cargs post rfl hc hg (by simp only[jQ,List.map_nil,Xh];exact ha) hb fun r os' hp=>.done ⟨hw r os' hp,hi.put (B:=aq _ (dC ρ os'++_)) (fun _=>rfl) no⟩
 |xX aB ρ os cargs post _ hc hg ha hb hw=>exact .bQ aB ρ os cargs post rfl hc hg ha hb fun r os' hp=>.done ⟨hw r os' hp,hi.put (B:=aq _ (dC ρ os'++_)) (fun _=>rfl) no⟩
theorem cd.one{L:ez}{A:ab}{g:az}{rest:List az}(hi:ew L A)(ho:oz g.op=true)(hL:im L g=true)(h:cd P hs K (bp A g.dst g.op rest (ay rest))):bj P Y false (fun B=>cd P hs K (ay rest B)∧ew L B) (bp A g.dst g.op [] (ay [])):=by
 have hval:=fun v (hv:bu A g.op=some v)=>JK hi hL hv
 obtain ⟨dst,op,gd⟩:=g
 simp only at ho h hval ⊢
 have pure:jm op=true→bj P Y false (fun B=>cd P hs K (ay rest B)∧ew L B) (bp A dst op [] (ay [])):=by
  intro hsm
  rw[xa hsm] at h ⊢
  cases hv:bu A op with
  |none=>rw[hv] at h;cases h
  |some v=>rw[hv] at h;exact .done ⟨h,hi.put (fun _=>rfl) (hval v hv)⟩
 have unl:(∀ ns d,dst=some d→jb L d=some ns→im L ⟨dst,op,gd⟩=false)→∀ d,dst=some d→jb L d=none:=fun h1 d hd=>by
  cases hn:jb L d with
  |none=>rfl
  |some ns=>rw[h1 ns d hd hn] at hL;cases hL
 cases op with
 |alloc z =>
  cases dst with
  |none=>simp only[bp] at h;cases h
  |some d =>
   simp only[bp] at h ⊢
   split at h
   case h_2=>cases h
   refine .done ⟨h,hi.put (B:=A.aN d _) (dst:=some d) (fun _=>rfl) fun d' e ns hn =>?_⟩
   simp only[Option.some.injEq] at e;subst e
   simpa only[im,hn,I.only] using hL
 |box x =>
  cases dst with
  |none=>simp only[bp] at h;cases h
  |some d =>
   simp only[bp] at h ⊢
   split at h
   case h_2=>cases h
   split at h
   case isFalse=>cases h
   rename_i hv
   rw[if_pos hv]
   refine .done ⟨h,hi.put (B:=A.aN d _) (dst:=some d) (fun _=>rfl) fun d' e ns hn =>?_⟩
   simp only[Option.some.injEq] at e;subst e
   simpa only[im,hn,I.only] using hL
 |bg s x v =>
  cases dst with
  |some d=>simp only[bp] at h;cases h
  |none =>
   simp only[bp] at h ⊢
   split at h
   case h_2=>cases h
   rename_i n p hx
   split at h
   case h_2=>cases h
   rename_i b hb
   split at h
   case h_2=>cases h
   rename_i old hold
   split at h
   case isFalse=>cases h
   rename_i hok
   simp only[if_pos hok]
   exact .done ⟨h,fun s ns hn=>hi s ns hn⟩
 |call f args=>exact cd.Ct hi (unl fun ns d e hn=>by subst e;simp only[im,hn]) h
 |eL x args =>
  have hu:=unl fun ns d e hn=>by subst e;simp only[im,hn]
  simp only[bp] at h ⊢
  split at h
  ·exact cd.Ct hi hu h
  ·cases h
  ·cases h
 |cL e esz bytes z s x =>
  have hu:=unl fun ns d e hn=>by subst e;simp only[im,hn]
  have te:∀ B,r0 A dst (ae A s) B→ew L B:=fun B hB t ns hn=>by
   rw[hB.1 t fun e=>by rw[hu t e] at hn;cases hn]
   exact hi t ns hn
  have hf:=z6 A dst e esz bytes z s x
  rcases hf rest with h1 | ⟨B,h1,h2⟩ | ⟨p,bl,h1,h2⟩
  ·rw[h1] at h;cases h
  ·rw[h1] at h
   have:bp A dst (.cL e esz bytes z s x) [] (ay [])=ay [] B:=(show bp A dst (.cL e esz bytes z s x) [] (ay [])=bp A dst (.cL e esz bytes z s x) rest (ay []) from rfl).trans (h1 _)
   rw[this]
   exact .done ⟨h,te B h2⟩
  ·rw[h1] at h
   have:bp A dst (.cL e esz bytes z s x) [] (ay [])=.any p fun m=>ay [] (bl m):=(show bp A dst (.cL e esz bytes z s x) [] (ay [])=bp A dst (.cL e esz bytes z s x) rest (ay []) from rfl).trans (h1 _)
   rw[this]
   exact .any rfl fun m hm=>.done ⟨h.zV m hm,te _ (h2 m)⟩
 |_=>first | exact pure rfl | cases ho
def gi(g:az)(A:ab)(v:I):Prop:=(gu A g∧v=.undef)∨(pass A g∧bu A g.op=some v)
theorem cd.yU{A:ab}{g:az}{rest:List az}(hs':jm g.op=true)(h:cd P hs K (ay (g::rest) A)):∃ v,gi g A v∧cd P hs K (ay rest (A.aP g.dst v)):=by
 have step:pass A g→cd P hs K (bp A g.dst g.op rest (ay rest))→∃ v,gi g A v∧cd P hs K (ay rest (A.aP g.dst v)):=by
  intro hp h
  rw[xa hs'] at h
  cases hv:bu A g.op with
  |none=>rw[hv] at h;cases h
  |some v=>rw[hv] at h;exact ⟨v,.inr ⟨hp,hv⟩,h⟩
 simp only[ay] at h
 split at h
 ·rename_i hg
  exact step (by simp only[pass,hg]) h
 ·rename_i t b hg
  split at h
  ·rename_i b' hb
   split at h
   ·rename_i hbb
    subst hbb
    exact step (by simp only[pass,hg];exact hb) h
   ·rename_i hbb
    exact ⟨_,.inl ⟨by simp only[gu,hg];exact .inl (by rw[hb,vc hbb]),rfl⟩,h⟩
  ·rename_i hb
   exact ⟨_,.inl ⟨by simp only[gu,hg];exact .inr hb,rfl⟩,h⟩
  ·cases h
theorem r8{A:ab}{g:az}{rest:List az}(hn:gu A g):ay (g::rest) A=ay rest (A.aP g.dst .undef):=by
 simp only[ay]
 cases hg:g.guard with
 |none=>simp only[gu,hg] at hn
 |some tb =>
  obtain ⟨t,b⟩:=tb
  simp only[gu,hg] at hn
  rcases hn with hn | hn
  ·simp only[hn];rw[if_neg (by cases b <;>simp)]
  ·simp only[hn]
theorem gi.to{A:ab}{g:az}{rest:List az}{v:I}(hs':jm g.op=true)(h:gi g A v):ay (g::rest) A=ay rest (A.aP g.dst v):=by
 rcases h with ⟨hn,rfl⟩ | ⟨hp,hv⟩
 ·exact r8 hn
 ·rw[nS hp,xa hs',hv];rfl
theorem WZ{A A':ab}{p:Nat→Bool}(ho:∀ n,p n=true→A'.o n=A.o n){x:I}(hx:x.only p=true):cu A' x=cu A x:=by
 cases x <;>simp only[cu]
 rename_i n q
 rw[ho n (by simpa[I.only] using hx)]
mutual
theorem XX{A A':ab}{p:Nat→Bool}(ho:∀ n,p n=true→A'.o n=A.o n):∀ {x:I},x.only p=true→bd false A' x=bd false A x
 | .own n k,h=>by simp only[bd];rw[ho n (by simpa[I.only] using h)]
 | .func f caps,h=>by simp only[bd];rw[sL ho (xs:=caps) (by simpa[I.only] using h)]
 | .agg fs,h=>by simp only[bd];rw[sL ho (xs:=fs) (by simpa[I.only] using h)]
 | .undef,_ | .c7,_ | .bool _,_ | .int _ _,_ | .cV _,_ | .nilp,_ | .de,_ | .dS,_ | .raw _,_ | .nils _,_ | .c0 _,_ | .slice _ _,_ | .tuple _,_ | .ref _,_ | .iface _ _,_ | .ptr _ _,_ | .view _ _ _ _ _,_ | .mref _,_ | .dx _,_ | .cU _ _,_=>by simp[bd]
theorem sL{A A':ab}{p:Nat→Bool}(ho:∀ n,p n=true→A'.o n=A.o n):∀ {xs:List I},I.bP p xs=true→bY false A' xs=bY false A xs
 | [],_=>rfl
 |x::xs,h=>by
  simp only[I.bP,Bool.and_eq_true] at h
  simp only[bY,XX ho h.1,sL ho h.2]
end
theorem JU{p:Nat→Bool}{f:aL→I} : ∀ {xs:List aL},(∀ x∈xs,(f x).only p=true)→I.bP p (xs.map f)=true
 | [],_=>rfl
 |x::xs,h=>by
  simp only[List.map_cons,I.bP,Bool.and_eq_true]
  exact ⟨h x (by simp),JU fun y hy=>h y (by simp[hy])⟩
theorem aiE{A A':ab}{p:Nat→Bool}(ho:∀ n,p n=true→A'.o n=A.o n){x:I}(hx:x.only p=true):gq A' x=gq A x:=by
 cases x with
 |mref n=>simp only[gq];rw[ho n (by simpa[I.only] using hx)]
 |raw v=>cases v <;>first | rfl | (rename_i o;cases o <;>rfl)
 |_=>rfl
theorem akv{A A':ab}{op:b7}{xs:List Nat}{p:Nat→Bool}(hm:nB op=some xs)(h:ea A A' op.c6)(hx:∀ s∈xs,(A.t s).only p=true)(ho:∀ n,p n=true→A'.o n=A.o n):bu A' op=bu A op:=by
 have gU:op.gE=0→bu A' op=bu A op:=fun hc=>yj hc h
 have dl:=fun {x:I} (hx:x.only p=true)=>WZ ho hx
 unfold nB at hm
 split at hm
 ·rename_i s x
  simp only[Option.some.injEq] at hm;subst hm
  have e:=h x (by simp[b7.c6,aL.sl])
  simp only[bu,ae,e,dl (hx x (by simp))]
 ·rename_i f off x
  simp only[Option.some.injEq] at hm;subst hm
  have e:=h x (by simp[b7.c6,aL.sl])
  have k:=hx x (by simp)
  simp only[bu,ae,e]
  generalize A.t x=u at k ⊢
  cases u with
  |ptr n q=>simp only[dl (x:=.ptr n q) k]
  |ref c=>cases c <;>rfl
  |_=>rfl
 ·rename_i n esz x i
  simp only[Option.some.injEq] at hm;subst hm
  have e:=h x (by simp[b7.c6,aL.sl])
  have ei:=da (x:=i) (fun m hm=>h m (by simp[b7.c6,hm]))
  have k:=hx x (by simp)
  simp only[bu,ei]
  generalize ae A i=w
  simp only[ae,e]
  generalize A.t x=u at k ⊢
  cases u with
  |ptr n q=>simp only[dl (x:=.ptr n q) k]
  |ref c=>cases c <;>rfl
  |_=>rfl
 ·rename_i esz x i
  simp only[Option.some.injEq] at hm;subst hm
  have e:=h x (by simp[b7.c6,aL.sl])
  have ei:=da (x:=i) (fun m hm=>h m (by simp[b7.c6,hm]))
  have k:=hx x (by simp)
  simp only[bu,ei]
  generalize ae A i=w
  simp only[ae,e]
  generalize A.t x=u at k ⊢
  cases u with
  |own n l=>simp only[ho n (by simpa[I.only] using k)]
  |view n q=>simp only[dl (x:=.ptr n q) (by simpa[I.only] using k)]
  |_=>rfl
 ·rename_i x
  simp only[Option.some.injEq] at hm;subst hm
  have e:=h x (by simp[b7.c6,aL.sl])
  have k:=hx x (by simp)
  simp only[bu,ae,e]
  generalize A.t x=u at k ⊢
  cases u with
  |own n l=>simp only[ho n (by simpa[I.only] using k)]
  |_=>rfl
 ·rename_i n esz x
  simp only[Option.some.injEq] at hm;subst hm
  have e:=h x (by simp[b7.c6,aL.sl])
  have k:=hx x (by simp)
  simp only[bu,ae,e]
  generalize A.t x=u at k ⊢
  cases u with
  |ptr n q=>simp only[dl (x:=.ptr n q) k]
  |ref c=>cases c <;>rfl
  |_=>rfl
 ·rename_i esz x lo hi mx
  simp only[Option.some.injEq] at hm;subst hm
  have e:=h x (by simp[b7.c6,aL.sl])
  have e1:=pz (x:=lo) (fun m hm=>h m (by simp[b7.c6,hm]))
  have e2:=pz (x:=hi) (fun m hm=>h m (by simp[b7.c6,hm]))
  have e3:=pz (x:=mx) (fun m hm=>h m (by simp[b7.c6,hm]))
  have k:=hx x (by simp)
  simp only[bu,e1,e2,e3]
  generalize lo.map (ae A)=w1
  generalize hi.map (ae A)=w2
  generalize mx.map (ae A)=w3
  simp only[ae,e]
  generalize A.t x=u at k ⊢
  cases u with
  |view n q=>simp only[dl (x:=.ptr n q) (by simpa[I.only] using k)]
  |_=>rfl
 ·rename_i x
  simp only[Option.some.injEq] at hm;subst hm
  have e:=h x (by simp[b7.c6,aL.sl])
  have k:=hx x (by simp)
  simp only[bu,ae,e]
  generalize A.t x=u at k ⊢
  cases u with
  |view n q=>simp only[dl (x:=.ptr n q) (by simpa[I.only] using k)]
  |_=>rfl
 ·rename_i ty z ok x kk
  simp only[Option.some.injEq] at hm;subst hm
  have e:=h x (by simp[b7.c6,aL.sl])
  have ek:=da (x:=kk) (fun m hm=>h m (by simp[b7.c6,hm]))
  have k:=hx x (by simp)
  simp only[bu,ek]
  generalize ae A kk=w
  simp only[ae,e,aiE ho k]
 ·rename_i esz ps
  split at hm
  case isFalse=>cases hm
  rename_i hall
  simp only[Option.some.injEq] at hm;subst hm
  have hev:ps.map (ae A')=ps.map (ae A):=mu h
  have hon:I.bP p (ps.map (ae A))=true:=JU fun x hx'=>by
   have h1:=List.all_eq_true.1 hall x hx'
   cases x with
   |c _=>cases h1
   |t s=>exact hx s (by simp only[jW,List.mem_flatMap];exact ⟨_,hx',by simp[aL.sl]⟩)
  simp only[bu,hev,sL ho hon]
 ·rfl
 ·split at hm
  ·rename_i hc;exact gU hc.1
  ·cases hm
theorem zX{L:ez}{A:ab}{g:az}{p:Nat→Bool}(hi:ew L A)(h:r9 L g p=true):∃ xs,nB g.op=some xs∧∀ s∈xs,(A.t s).only p=true:=by
 unfold r9 at h
 split at h
 case h_2=>cases h
 rename_i xs hm
 refine ⟨xs,hm,fun s hs' =>?_⟩
 have h1:=List.all_eq_true.1 h s hs'
 split at h1
 case h_2=>cases h1
 rename_i ns hn
 exact jf (fun n h2=>List.all_eq_true.1 h1 n (by simpa using h2)) _ (hi s ns hn)
theorem gi.xH{A A':ab}{g:az}{v:I}{xs:List Nat}{p:Nat→Bool}(h:gi g A v)(hm:nB g.op=some xs)(ha:ea A A' g.c6)(hx:∀ s∈xs,(A.t s).only p=true)(ho:∀ n,p n=true→A'.o n=A.o n):gi g A' v:=by
 rcases h with ⟨h,rfl⟩ | ⟨h,k⟩
 ·exact .inl ⟨pR ha h,rfl⟩
 ·exact .inr ⟨nF ha h,by rw[akv hm (az.kh ha) hx ho];exact k⟩
theorem gi.te{L:ez}{A:ab}{g:az}{v:I}(hi:ew L A)(hg:im L g=true)(h:gi g A v):ew L (A.aP g.dst v):=by
 rcases h with ⟨_,rfl⟩ | ⟨_,k⟩
 ·exact hi.put (fun _=>rfl) fun _ _ _ _=>rfl
 ·exact hi.put (fun _=>rfl) (JK hi hg k)
theorem gi.cF{A A':ab}{g:az}{v:I}(h:gi g A v)(hu:ef A A')(ha:ea A A' g.c6):gi g A' v:=by
 rcases h with ⟨h,rfl⟩ | ⟨h,k⟩
 ·exact .inl ⟨pR ha h,rfl⟩
 ·exact .inr ⟨nF ha h,J9 hu (az.kh ha) k⟩
theorem IP{L:ez}{g h:az}(hi:nw hs L g h=true):jm g.op=true∧oA hs L g h=true∧(∀ d,g.dst=some d→d∉h.c6)∧(∀ d,g.dst=some d→h.dst≠some d)∧(∀ d,h.dst=some d→d∉g.c6):=by
 simp only[nw,Bool.and_eq_true] at hi
 obtain ⟨h1,h2,h3,h4⟩:=hi
 refine ⟨h1,h2,fun d hd =>?_,fun d hd =>?_,fun d hd =>?_⟩
 ·rw[hd] at h3;simp at h3;exact h3.1
 ·rw[hd] at h3;simp at h3;exact h3.2
 ·rw[hd] at h4;simpa using h4
theorem Ac{aB:Bool}{A A':ab}{ρ:List (Nat×Nat)}{os:List (Nat×ah)}(hu:ef A A'):∀ {xs cs:List I},js aB A ρ os xs cs→js aB A' ρ os xs cs
 | [],[],_=>trivial
 |x::xs,c::cs,h=>⟨h.1.imp id fun h=>Dv hu h,Ac hu h.2⟩
 | [],_::_,h=>h.elim
 |_::_,[],h=>h.elim
theorem aiL{A:ab}{d:Option Nat}{v:I}{ts:List (Nat×I)}{os:List (Nat×ah)}(h:A.aP d v=aq ts os):∃ ts2,A=aq ts2 os∧∀ X:List (Nat×ah),(aq ts2 X).aP d v=aq ts X:=by
 cases d with
 |none=>exact ⟨ts,h,fun _=>rfl⟩
 |some d =>
  have ht:∀ k,(A.aP (some d) v).t k=bH ts k:=fun k=>by rw[h];rfl
  have ho:A.o=ai os:=by
   have:(A.aP (some d) v).o=ai os:=by rw[h];rfl
   rwa [iG] at this
  refine ⟨(d,A.t d)::ts,?_,fun X =>?_⟩
  ·cases A with
   |mk t o =>
    simp only[aq,ab.mk.injEq]
    refine ⟨funext fun k =>?_,ho⟩
    have:=ht k
    simp only[ab.aP,ab.put] at this
    simp only[bH]
    by_cases hk:k=d
    ·subst hk;simp
    ·rw[if_neg hk] at this
     have hk':¬ d=k:=fun e=>hk e.symm
     simp only[hk,if_false]
     exact this
  ·simp only[ab.aP,ab.put,aq,ab.mk.injEq,and_true]
   funext k
   have:=ht k
   simp only[ab.aP,ab.put] at this
   by_cases hk:k=d
   ·subst hk;simp at this ⊢;exact this
   ·have hk':¬ d=k:=fun e=>hk e.symm
    simp only[bH,hk,if_false]
theorem akt{ρ:List (Nat×Nat)}{os0 os':List (Nat×ah)}{r:I}(hb:ev false ρ [] os0 r os'){n:Nat}{x:ah}(hx:ai os0 n=some x):ai (dC ρ os'++os0) n=some x:=by
 rw[q0]
 cases hp:pre ρ os' n with
 |none=>exact hx
 |some m =>
  obtain ⟨h1,h2⟩:=lV hp
  have:=(hb.pO m h1 (by simp[ao,ai])).1
  rw[h2,hx] at this
  cases this
theorem cd.RV{A B:ab}{j:az}{v:I}{f:FuncId}{args:List aL}{dst:Option Nat}{rest:List az}(hj:jm j.op=true)(hv:gi j A v)(hB:B=A.aP j.dst v)(hf:hs.contains f=false)(hag:ea A B (jW args))(hd:∀ d,j.dst=some d→dst≠some d)(hr:∀ d,dst=some d→d∉j.c6)
  (h:cd P hs K (.call f (args.map (ae B)) (bY true B (args.map (ae B))) (bY false B (args.map (ae B))) dst rest B)):cd P hs K (.call f (args.map (ae A)) (bY true A (args.map (ae A))) (bY false A (args.map (ae A))) dst (j::rest) A):=by
 have eo:B.o=A.o:=by rw[hB,iG]
 have cF:ef B A:=fun n x hx=>by rwa [←eo]
 have up':ef A B:=fun n x hx=>by rwa [eo]
 have eav:args.map (ae B)=args.map (ae A):=mu hag
 rw[eav] at h
 have cont:∀ r:I,cd P hs K (ay rest (B.aP dst r))→cd P hs K (ay (j::rest) (A.aP dst r)):=fun r hw=>by
  have h1:gi j (A.aP dst r) v:=hv.cF (fun n x hx=>by rwa [iG]) (mK hr)
  rw[h1.to hj,p7 (fun d hd'=>fun e=>hd d e hd'),←hB]
  exact hw
 generalize e1:bY true B (args.map (ae A))=a1 at h
 generalize e2:bY false B (args.map (ae A))=a2 at h
 generalize hBm:B=B0 at h
 cases h with
 |flat r hc hfl hw =>
  subst hBm
  rw[lG cF e1]
  exact .flat r hc hfl (cont r hw)
 |lead r hc hw =>
  subst hBm
  rw[lG cF e2]
  exact .lead r hc (cont r hw)
 |bQ ρ cargs post hc hg ha hb hw =>
  rename_i ts os0
  rw[hB] at hBm
  obtain ⟨ts2,hA,hts⟩:=aiL hBm
  have hA':=hA
  clear cont
  subst hA
  refine .bQ ρ cargs post hc hg (Ac (A:=aq ts os0) (A':=aq ts2 os0) (fun n x hx=>hx) ha) hb fun r os' hp =>?_
  have h1:gi j ((aq ts2 (dC ρ os'++os0)).aP dst (r.aM (bA ρ))) v:=hv.cF (fun n x hx=>by
   rw[iG]
   exact akt (hb r os' hp) hx) (fun k hk=>by
    have:=mK (A:=aq ts2 (dC ρ os'++os0)) (v:=r.aM (bA ρ)) hr k hk
    rw[this];rfl)
  rw[h1.to hj,p7 (fun d hd'=>fun e=>hd d e hd'),hts]
  exact hw r os' hp
 |xX aB ρ os cargs post hfs =>
  rw[hf] at hfs;cases hfs
theorem cd.swap{L:ez}{A:ab}{j g:az}{rest:List az}(hinv:ew L A)(hi:nw hs L j g=true)(hw:cd P hs K (ay (j::g::rest) A)):cd P hs K (ay (g::j::rest) A):=by
 obtain ⟨hj,hl,i1,i2,i3⟩:=IP hi
 obtain ⟨v,hv,hw⟩:=cd.yU hj hw
 have ag:ea (A.aP j.dst v) A g.c6:=(mK i1).symm
 have ag':ea A (A.aP j.dst v) g.c6:=mK i1
 have cF:ef (A.aP j.dst v) A:=fun n x hx=>by rwa [iG] at hx
 have up':∀ (d:Option Nat) (u:I),ef A (A.aP d u):=fun d u n x hx=>by rwa [iG]
 by_cases hsg:jm g.op=true
 ·obtain ⟨u,hu,hw⟩:=cd.yU hsg hw
  rw[(hu.cF cF ag).to hsg,(hv.cF (up' _ _) (mK i3)).to hj,←p7 i2]
  exact hw
 ·-- the guard
  have guard:(gu (A.aP j.dst v) g∧ay (g::rest) (A.aP j.dst v)=ay rest ((A.aP j.dst v).aP g.dst .undef))∨(pass (A.aP j.dst v) g∧ay (g::rest) (A.aP j.dst v)=bp (A.aP j.dst v) g.dst g.op rest (ay rest))∨ay (g::rest) (A.aP j.dst v)=.fail:=by
   cases hg:g.guard with
   |none=>exact .inr (.inl ⟨by simp only[pass,hg],by simp only[ay,hg]⟩)
   |some tb =>
    obtain ⟨t,b⟩:=tb
    cases ht:(A.aP j.dst v).t t with
    |bool b' =>
     by_cases hbb:b'=b
     ·subst hbb
      have hp:pass (A.aP j.dst v) g:=by simp only[pass,hg,ht]
      exact .inr (.inl ⟨hp,nS hp⟩)
     ·have hn:gu (A.aP j.dst v) g:=by simp only[gu,hg];exact .inl (by rw[ht,vc hbb])
      exact .inl ⟨hn,r8 hn⟩
    |undef =>
     have hn:gu (A.aP j.dst v) g:=by simp only[gu,hg];exact .inr ht
     exact .inl ⟨hn,r8 hn⟩
    |_=>exact .inr (.inr (by simp only[ay,hg,ht]))
  rcases guard with ⟨hn,he⟩ | ⟨hp,he⟩ | he
  ·rw[he] at hw
   rw[r8 (pR ag hn),(hv.cF (up' _ _) (mK i3)).to hj,←p7 i2]
   exact hw
  ·rw[he] at hw
   rw[nS (nF ag hp)]
   obtain ⟨dst,op,gd⟩:=g
   simp only at hw hsg i2 i3 ⊢
   cases op with
   |alloc z =>
    cases dst with
    |none=>simp only[bp] at hw;cases hw
    |some d =>
    simp only[bp] at hw ⊢
    split at hw
    case h_2=>cases hw
    rename_i ho
    rw[iG] at ho
    simp only[ho]
    have h1:gi j ((A.aN d (.box z)).put d (.ptr d [])) v:=hv.cF (fun n y hy=>by
     have:n≠d:=fun he=>by rw[he,ho] at hy;cases hy
     simp only[ab.put,ab.aN,this,if_false];exact hy) (fun k hk=>by
     have:k≠d:=fun he=>i3 d rfl (he▸hk)
     simp only[ab.put,ab.aN,this,if_false])
    rw[h1.to hj]
    have e:((A.aP j.dst v).aN d (.box z)).put d (.ptr d [])=((A.aN d (.box z)).put d (.ptr d [])).aP j.dst v:=by
     cases hgd:j.dst with
     |none=>rfl
     |some e =>
      have hne:e≠d:=fun he=>i2 e hgd (by rw[he])
      simp only[ab.aP,ab.put,ab.aN,ab.mk.injEq,and_true]
      funext k
      by_cases h1:k=e <;>by_cases h2:k=d <;>simp_all
    rw[←e];exact hw
   |box x =>
    have ex:ae (A.aP j.dst v) x=ae A x:=da (az.kh ag')
    cases dst with
    |none=>simp only[bp] at hw;cases hw
    |some d =>
    simp only[bp] at hw ⊢
    split at hw
    case h_2=>cases hw
    rename_i ho
    rw[iG] at ho
    simp only[ho]
    rw[ex] at hw
    split at hw
    case isFalse=>cases hw
    rename_i hval
    rw[if_pos hval]
    have h1:gi j ((A.aN d (.box (ae A x))).put d (.ptr d [])) v:=hv.cF (fun n y hy=>by
     have:n≠d:=fun he=>by rw[he,ho] at hy;cases hy
     simp only[ab.put,ab.aN,this,if_false];exact hy) (fun k hk=>by
     have:k≠d:=fun he=>i3 d rfl (he▸hk)
     simp only[ab.put,ab.aN,this,if_false])
    rw[h1.to hj]
    have e:((A.aP j.dst v).aN d (.box (ae A x))).put d (.ptr d [])=((A.aN d (.box (ae A x))).put d (.ptr d [])).aP j.dst v:=by
     cases hgd:j.dst with
     |none=>rfl
     |some e =>
      have hne:e≠d:=fun he=>i2 e hgd (by rw[he])
      simp only[ab.aP,ab.put,ab.aN,ab.mk.injEq,and_true]
      funext k
      by_cases h1:k=e <;>by_cases h2:k=d <;>simp_all
    rw[←e];exact hw
   |call f args =>
    simp only[bp] at hw ⊢
    refine cd.RV hj hv rfl (by simpa[oA,pI] using hl) (az.kh ag') i2 i3 hw
   |bg s y u =>
    cases dst with
    |some d=>simp only[bp] at hw;cases hw
    |none =>
    have ey:ae (A.aP j.dst v) y=ae A y:=da (az.kh ag').l
    have eu:ae (A.aP j.dst v) u=ae A u:=da (az.kh ag').r
    simp only[bp] at hw ⊢
    rw[ey,eu,iG] at hw
    cases hx:ae A y <;>simp only[hx] at hw ⊢ <;>try (cases hw;done)
    rename_i n q
    cases ho:A.o n with
    |none=>rw[ho] at hw;cases hw
    |some ob =>
    rw[ho] at hw
    cases ob <;>simp only at hw ⊢ <;>try (cases hw;done)
    rename_i b
    cases hb:b.at q with
    |none=>rw[hb] at hw;cases hw
    |some old =>
    rw[hb] at hw
    simp only at hw ⊢
    split at hw
    case isFalse=>cases hw
    rename_i hok
    rw[if_pos hok]
    have h1:gi j (A.aN n (.box (b.dH q (ae A u)))) v:=by
     have none0:nB j.op=some []→gi j (A.aN n (.box (b.dH q (ae A u)))) v:=fun hm=>hv.xH (p:=fun _=>false) hm (fun _ _=>rfl) (fun s hs'=>by cases hs') (fun m hm=>by cases hm)
     cases y with
     |c y =>
      simp only[oA,pI,jm,Bool.false_or] at hl
      split at hl
      ·rename_i hm;exact none0 hm
      ·cases hl
     |t y =>
      simp only[oA,pI,jm,Bool.false_or] at hl
      split at hl
      ·rename_i hm;exact none0 hm
      ·split at hl
       case h_2=>cases hl
       rename_i ms hms
       obtain ⟨xs,hm,hx2⟩:=zX hinv hl
       refine hv.xH hm (fun _ _=>rfl) hx2 fun m hm2 =>?_
       have hn:=hinv y ms hms
       simp only[ae] at hx
       rw[hx] at hn
       have:m≠n:=fun e=>by subst e;simp[I.only] at hn hm2;exact hm2 hn
       simp only[ab.aN,if_neg this]
    rw[h1.to hj]
    have e:(A.aP j.dst v).aN n (.box (b.dH q (ae A u)))=(A.aN n (.box (b.dH q (ae A u)))).aP j.dst v:=by cases j.dst <;>rfl
    rw[←e];exact hw
   |cL e esz bytes z s x =>
    have hag:ea A (A.aP j.dst v) (s.sl++x.sl):=az.kh ag'
    have he2:bp (A.aP j.dst v) dst (.cL e esz bytes z s x) rest (ay rest)=bp A dst (.cL e esz bytes z s x) (j::rest) fun B=>ay rest (B.aP j.dst v):=by
     cases hjd:j.dst with
     |none=>rfl
     |some d =>
      rw[hjd] at hag
      exact Pn (fun e=>i2 d hjd e) hag rest (j::rest) (ay rest)
    rw[he2] at hw
    have j9:∀ B,r0 A dst (ae A s) B→ay (j::rest) B=ay rest (B.aP j.dst v):=fun B hB=>by
     have hagB:ea A B j.c6:=fun k hk=>hB.1 k fun e=>i3 k e hk
     have:gi j B v:=by
      simp only[oA,pI,jm,Bool.false_or,Bool.or_eq_true] at hl
      rcases hl with hl | hl
      ·obtain ⟨xs,hm,hx2⟩:=zX hinv hl
       exact hv.xH hm hagB hx2 fun m hm2=>by cases hm2
      ·have:=rL hinv hl
       exact hv.cF (hB.2 (by simpa using this)) hagB
     rw[this.to hj]
    rcases z6 A dst e esz bytes z s x (j::rest) with h1 | ⟨B,h1,h2⟩ | ⟨p,bl,h1,h2⟩
    ·rw[h1] at hw;cases hw
    ·rw[h1] at hw ⊢;rw[j9 B h2];exact hw
    ·rw[h1] at hw ⊢
     exact .any fun m hm=>by rw[j9 _ (h2 m)];exact hw.zV m hm
   |_=>first | exact absurd rfl hsg | (simp[oA,pI,jm] at hl)
  ·rw[he] at hw;cases hw
theorem cd.pf{L:ez}{g:az} : ∀ {l:List az} {r:List az} {A:ab},ew L A→(∀ j∈l,nw hs L j g=true∧im L j=true)→cd P hs K (ay (l++g::r) A)→cd P hs K (ay (g::(l++r)) A)
 | [],r,A,_,_,h=>h
 |j::l,r,A,hinv,hi,h=>by
  have hj:=(IP (hi j (by simp)).1).1
  obtain ⟨v,hv,h2⟩:=cd.yU (g:=j) (rest:=l++g::r) hj h
  have h3:=cd.pf (l:=l) (r:=r) (hv.te hinv (hi j (by simp)).2) (fun k hk=>hi k (by simp[hk])) h2
  refine cd.swap hinv (hi j (by simp)).1 ?_
  rw[hv.to hj];exact h3
end
def rj:List Nat→Bool
 | []=>true
 |a::l => !l.contains a&&rj l
def qt(hs:List FuncId)(L:ez)(gs:List az)(cl:List Nat):List Nat→List Nat→Bool
 |_,[]=>true
 |before,i::σ=>(before.all fun j=>(cl.getD i 0).testBit j||nw hs L (gs.getD j default) (gs.getD i default))&&qt hs L gs cl (i::before) σ
def tP(hs:List FuncId)(L:ez)(on:List (List Nat))(gs:List az)(cl:List Nat)(σ:List Nat):Bool :=
 (Nat.beq σ.length gs.length&&(rj σ&&(σ.all (fun i=>decide (i<gs.length))&&((List.range gs.length).all (fun i=>σ.contains i)&&gs.all fun g=>oz g.op&&im L g))))&&(qt hs L gs cl [] σ&&(List.range gs.length).all fun i=>(on.getD i []).all (fun k=>decide (k<i))&&Nat.beq (cl.getD i 0) (nN cl (on.getD i [])))
theorem xU:∀ {l:List Nat},rj l=true→l.Nodup
 | [],_=>List.nodup_nil
 |a::l,h=>by
  simp only[rj,Bool.and_eq_true,Bool.not_eq_true',List.contains_eq_mem,decide_eq_false_iff_not] at h
  exact List.nodup_cons.2 ⟨h.1,xU h.2⟩
theorem uU{hs:List FuncId}{L:ez}{gs:List az}{cl:List Nat} : ∀ {σ before:List Nat},qt hs L gs cl before σ=true→∀ s1 i s2,σ=s1++i::s2→∀ j,j∈before∨j∈s1→(cl.getD i 0).testBit j=true∨nw hs L (gs.getD j default) (gs.getD i default)=true
 | [],_,_,s1,i,s2,e,_,_=>by cases s1 <;>cases e
 |a::σ,before,h,s1,i,s2,e,j,hj=>by
  simp only[qt,Bool.and_eq_true,List.all_eq_true,Bool.or_eq_true] at h
  cases s1 with
  |nil =>
   simp only[List.nil_append,List.cons.injEq] at e
   obtain ⟨rfl,rfl⟩:=e
   rcases hj with hj | hj
   ·exact h.1 j hj
   ·cases hj
  |cons b s1 =>
   simp only[List.cons_append,List.cons.injEq] at e
   obtain ⟨rfl,rfl⟩:=e
   refine uU h.2 s1 i s2 rfl j ?_
   rcases hj with hj | hj
   ·exact .inl (List.mem_cons_of_mem _ hj)
   ·rcases List.mem_cons.1 hj with hj | hj
    ·exact .inl (by rw[hj];exact List.mem_cons_self)
    ·exact .inr hj
def eW(σ:List Nat)(listed:Array Bool):List Nat:=σ.filter fun i => !listed.getD i true
def jz(gs:List az)(σ:List Nat)(listed:Array Bool):List az:=(eW σ listed).map fun i=>gs.getD i default
theorem Mb{σ:List Nat}{listed:Array Bool}{i:Nat}(hn:σ.Nodup)(hi:i∈σ)(hl:i<listed.size)(hu:listed.getD i true=false):∃ s1 s2,σ=s1++i::s2∧eW σ listed=(s1.filter fun j => !listed.getD j true)++i::(s2.filter fun j => !listed.getD j true) ∧
  eW σ (listed.setIfInBounds i true)=(s1.filter fun j => !listed.getD j true)++(s2.filter fun j => !listed.getD j true):=by
 obtain ⟨s1,s2,rfl⟩:=List.append_of_mem hi
 have same:∀ j,j≠i→(listed.setIfInBounds i true).getD j true=listed.getD j true:=fun j hj=>getD_set_ne true (Ne.symm hj)
 have hit:(listed.setIfInBounds i true).getD i true=true:=by simp[hl]
 have hnd:=List.nodup_append.1 hn
 have h1:∀ j∈s1,j≠i:=fun j hj=>hnd.2.2 j hj i List.mem_cons_self
 have h2:∀ j∈s2,j≠i:=fun j hj e=>(List.nodup_cons.1 hnd.2.1).1 (e▸hj)
 refine ⟨s1,s2,rfl,?_,?_⟩
 ·simp only[eW,List.filter_append,List.filter_cons,hu,Bool.not_false,if_true]
 ·simp only[eW,List.filter_append,List.filter_cons,hit,Bool.not_true,Bool.false_eq_true,if_false]
  congr 1
  ·exact List.filter_congr fun j hj=>by rw[same j (h1 j hj)]
  ·exact List.filter_congr fun j hj=>by rw[same j (h2 j hj)]
structure zN (hs:List FuncId) (L:ez) (l:List Oper) (gs:List az) (σ:List Nat):Prop where
 tE:σ.Nodup
 lt:∀ i∈σ,i<gs.length
 all:∀ i,i<gs.length→i∈σ
 ok:∀ g∈gs,oz g.op=true∧im L g=true
 len:σ.length=gs.length
 m8:∀ i o,l[i]?=some o→∀ k∈cZ o,k<i
 qP:∀ (S:Nat→Prop),(∀ i o,l[i]?=some o→S i→∀ k∈cZ o,S k)→∀ s1 i s2 o,σ=s1++i::s2→l[i]?=some o→(∀ k∈cZ o,S k)→∀ j∈s1,¬ S j→nw hs L (gs.getD j default) (gs.getD i default)=true
theorem akl{hs:List FuncId}{L:ez}{l:List Oper}{gs:List az}{cl σ:List Nat}(hlen:gs.length=l.length)(h:tP hs L (l.map cZ) gs cl σ=true):zN hs L l gs σ:=by
 simp only[tP,Bool.and_eq_true,List.all_eq_true,decide_eq_true_eq,List.mem_range,List.contains_eq_mem] at h
 obtain ⟨⟨h1,h2,h3,h4,h5⟩,h6,h7⟩:=h
 have cW:∀ i o,l[i]?=some o→(∀ k∈cZ o,k<i)∧(∀ j,(cl.getD i 0).testBit j=true→j∈cZ o∨∃ k∈cZ o,(cl.getD k 0).testBit j=true):=by
  intro i o ho
  have hi:i<l.length:=(List.getElem?_eq_some_iff.1 ho).1
  have h8:=h7 i (by omega)
  have hon:(l.map cZ).getD i []=cZ o:=by simp[List.getD_eq_getElem?_getD,ho]
  rw[hon] at h8
  have hb:=Nat.eq_of_beq_eq_true h8.2
  exact ⟨h8.1,fun j hj=>uy (by rw[←hb];exact hj)⟩
 refine ⟨xU h2,h3,h4,h5,Nat.eq_of_beq_eq_true h1,fun i o ho=>(cW i o ho).1,?_⟩
 intro S hS s1 i s2 o e ho hon j hj hnj
 have key:∀ n i o,i≤n→l[i]?=some o→(∀ k∈cZ o,S k)→∀ j,(cl.getD i 0).testBit j=true→S j:=by
  intro n
  induction n with
  |zero =>
   intro i o hi ho hon j hj
   obtain ⟨h8,h9⟩:=cW i o ho
   rcases h9 j hj with h | ⟨k,hk,_⟩
   ·exact hon j h
   ·have:=h8 k hk;omega
  |succ n ih =>
   intro i o hi ho hon j hj
   obtain ⟨h8,h9⟩:=cW i o ho
   rcases h9 j hj with h | ⟨k,hk,hjk⟩
   ·exact hon j h
   ·have hki:=h8 k hk
    have hkl:k<l.length:=Nat.lt_trans hki (List.getElem?_eq_some_iff.1 ho).1
    obtain ⟨ok,hok⟩:∃ ok,l[k]?=some ok:=⟨l[k],List.getElem?_eq_getElem hkl⟩
    exact ih k ok (by omega) hok (hS k ok hok (hon k hk)) j hjk
 rcases uU h6 s1 i s2 e j (.inr hj) with h | h
 ·exact absurd (key i i o (Nat.le_refl _) ho hon j h) hnj
 ·exact h
section
variable {c:cJ}
theorem w0{K:ab→Prop}{hs:List FuncId}{L:ez}{bx:Array Oper}{Q:Exit→Act→World→Prop}{o:Oper}{g:az}{rest:List az}{A:ab}{a:Act}{w:World}{Kw:Act→World→Prop}(hg:pg c.P c.n bx o=some g)(hi:ew L A)(ho:oz g.op=true∧im L g=true)(hwp:cd c.P hs K (ay (g::rest) A))(hs':cj c A a w)
  (hK:∀ B a' w',cd c.P hs K (ay rest B)→ew L B→cj c B a' w'→Kw a' w'):if Region.wanted o (yielded bx a.tmps) then o.wpIn c.bl 9 c.P a w Kw Q else (∀ f,o.about c.P w a.eval=some f→c.bl.fn f)∧Kw (a.put o.dst undef) w:=by
 obtain ⟨h1,h2,h3,h4⟩:=vk hg
 have step:cd c.P hs K (bp A g.dst g.op rest (ay rest))→o.wpIn c.bl 9 c.P a w Kw Q:=fun h =>
  xb h1 h2.symm (by rw[h2];exact h3) (cd.one (Y:=c.Y) hi ho.1 ho.2 h) hs' (fun B a' w' hw hs2=>by
   cases hw with
   |done hk=>exact hK B a' w' hk.1 hk.2 hs2)
 simp only[ay] at hwp
 rcases h4 with ⟨h5,h6⟩ | ⟨j,b,t,h5,h6,h7⟩
 ·rw[h6] at hwp
  have hw:Region.wanted o (yielded bx a.tmps)=true:=by simp[Region.wanted,h5]
  rw[hw,if_pos rfl]
  exact step hwp
 ·rw[h7] at hwp
  simp only at hwp
  split at hwp
  ·rename_i b' hb'
   rw[xi hs' h5 h6 hb']
   split at hwp
   ·rename_i hbb
    subst hbb
    simp only[BEq.rfl,if_true]
    exact step hwp
   ·rename_i hbb
    have:(b'==b)=false:=by simpa using hbb
    rw[this]
    simp only[Bool.false_eq_true,if_false]
    exact ⟨fun f _=>od c f,hK _ _ _ hwp (hi.put (fun _=>rfl) fun _ _ _ _=>rfl) (by rw[h2];exact hs'.p6 h3)⟩
  ·rename_i hb'
   rw[xj hs' h5 h6 hb']
   simp only[Bool.false_eq_true,if_false]
   exact ⟨fun f _=>od c f,hK _ _ _ hwp (hi.put (fun _=>rfl) fun _ _ _ _=>rfl) (by rw[h2];exact hs'.p6 h3)⟩
  ·cases hwp
theorem Pe{K:ab→Prop}{fs:List FuncId}{L:ez}{bx:Array Oper}{gs:List az}{σ:List Nat}{Q:Exit→Act→World→Prop}(hQ:∀ B a w,K B→cj c B a w→Q .normal a w)(hgs:j4 c.P c.n bx bx.toList=some gs)(hd:zN fs L bx.toList gs σ) :
  ∀ (fuel:Nat) (listed:Array Bool) (A:ab) (a:Act) (w:World),listed.size=bx.size→(∀ i o,bx.toList[i]?=some o→listed.getD i false=true→∀ k∈cZ o,listed.getD k false=true)→(eW σ listed).length≤fuel →
   ew L A→cd c.P fs K (ay (jz gs σ listed) A)→cj c A a w→wpAnyIn c.bl 9 c.P .any bx Q fuel listed a w:=by
 obtain ⟨hlen,hat⟩:=j5 hgs
 have onOf_mem:∀ (o:Oper) (e:Edge),e∈o.after→Region.binds .any e=true→e.on∈cZ o:=fun o e he hb=>by
  simp only[cZ,List.mem_map,List.mem_filter]
  exact ⟨e,⟨by simpa using he,hb⟩,rfl⟩
 have of_onOf:∀ (o:Oper) (k:Nat),k∈cZ o→∃ e∈o.after,Region.binds .any e=true∧e.on=k:=fun o k hk=>by
  simp only[cZ,List.mem_map,List.mem_filter] at hk
  obtain ⟨e,⟨h1,h2⟩,h3⟩:=hk
  exact ⟨e,by simpa using h1,h2,h3⟩
 have hgl:gs.length=bx.size:=by rw[hlen,Array.length_toList]
 have last:∀ (listed:Array Bool) (A:ab) (a:Act) (w:World),listed.size=bx.size→Region.ready .any bx listed=[]→cd c.P fs K (ay (jz gs σ listed) A)→cj c A a w→Q .normal a w:=by
  intro listed A a w hsz hr hwp hs
  have hnone:eW σ listed=[]:=by
   have all:∀ n,∀ i,i<n→i<bx.size→listed.getD i true=true:=by
    intro n
    induction n with
    |zero=>intro i hi;omega
    |succ n ih =>
     intro i hi his
     cases hb:listed.getD i true with
     |true=>rfl
     |false =>
      exfalso
      have ho:bx[i]?=some bx[i]:=Array.getElem?_eq_getElem his
      have:i∈Region.ready .any bx listed:=mem_ready.2 ⟨hb,bx[i],ho,fun e he hbd=>by
       have hlt:=hd.m8 i bx[i] (by simp) e.on (onOf_mem _ e he hbd)
       have h1:=ih e.on (by omega) (by omega)
       have h2:e.on<listed.size:=by omega
       simpa[Array.getD_eq_getD_getElem?,h2] using h1⟩
      rw[hr] at this
      cases this
   simp only[eW]
   refine List.filter_eq_nil_iff.2 fun i hi =>?_
   have:=all (i+1) i (by omega) (by rw[←hgl];exact hd.lt i hi)
   simp only[this,Bool.not_true,Bool.false_eq_true,not_false_eq_true]
  simp only[jz,hnone,List.map_nil,ay] at hwp
  cases hwp with
  |done hk=>exact hQ A a w hk hs
 intro fuel
 induction fuel with
 |zero =>
  intro listed A a w hsz hcl hcnt hinv hwp hs
  have hnone:eW σ listed=[]:=List.length_eq_zero_iff.1 (by omega)
  have hr:Region.ready .any bx listed=[]:=by
   refine List.eq_nil_iff_forall_not_mem.2 fun i hi =>?_
   obtain ⟨h1,o,ho,_⟩:=mem_ready.1 hi
   have:i∈eW σ listed:=by
    simp only[eW,List.mem_filter,h1,Bool.not_false,and_true]
    exact hd.all i (by rw[hgl];exact (Array.getElem?_eq_some_iff.1 ho).1)
   rw[hnone] at this
   cases this
  exact ⟨hr,last listed A a w hsz hr hwp hs⟩
 |succ fuel ih =>
  intro listed A a w hsz hcl hcnt hinv hwp hs
  refine ⟨fun hr=>last listed A a w hsz hr hwp hs,fun i hi =>?_⟩
  obtain ⟨hun,o,ho,hall⟩:=mem_ready.1 hi
  have hin:i<bx.size:=(Array.getElem?_eq_some_iff.1 ho).1
  obtain ⟨s1,s2,hσ,e1,e2⟩:=Mb hd.tE (hd.all i (by omega)) (by omega) hun
  have hol:bx.toList[i]?=some o:=by simpa using ho
  obtain ⟨g,hgi,hcg⟩:=hat i o hol
  have hon:∀ k∈cZ o,listed.getD k false=true:=fun k hk=>by
   obtain ⟨e,h1,h2,h3⟩:=of_onOf o k hk
   exact h3▸hall e h1 h2
  have hgd:gs.getD i default=g:=by simp[List.getD_eq_getElem?_getD,hgi]
  have hwp':cd c.P fs K (ay (g::jz gs σ (listed.setIfInBounds i true)) A):=by
   simp only[jz,e1,List.map_append,List.map_cons,hgd] at hwp
   simp only[jz,e2,List.map_append]
   refine cd.pf hinv (fun j hj =>?_) hwp
   obtain ⟨k,hk,rfl⟩:=List.mem_map.1 hj
   obtain ⟨hk1,hk2⟩:=List.mem_filter.1 hk
   have:=hd.qP (fun k=>listed.getD k false=true) hcl s1 i s2 o hσ hol hon k hk1 (by
    have hks:k<listed.size:=by
     have:=hd.lt k (by rw[hσ];exact List.mem_append_left _ hk1)
     omega
    simp[Array.getD_eq_getD_getElem?,hks] at hk2 ⊢
    exact hk2)
   rw[hgd] at this
   refine ⟨this,(hd.ok _ ?_).2⟩
   have hkl:=hd.lt k (by rw[hσ];exact List.mem_append_left _ hk1)
   rw[List.getD_eq_getElem?_getD,List.getElem?_eq_getElem hkl]
   exact List.getElem_mem _
  unfold wpOpIn
  rw[ho]
  refine w0 hcg hinv (hd.ok g (List.mem_of_getElem? hgi)) hwp' hs fun B a' w' hw hiB hs'=>ih _ B a' w' (by simpa using hsz) ?_ ?_ hiB hw hs'
  ·intro m om hom hm k hk
   by_cases hmi:m=i
   ·subst hmi
    rw[hol,Option.some.injEq] at hom
    subst hom
    exact getD_set_true (hon k hk)
   ·rw[getD_set_ne false (Ne.symm hmi)] at hm
    exact getD_set_true (hcl m om hom hm k hk)
  ·have:(eW σ listed).length=(eW σ (listed.setIfInBounds i true)).length+1:=by
    rw[e1,e2];simp;omega
   omega
def lT(σ:List Nat)(gs:List az):List az:=σ.map fun i=>gs.getD i default
theorem J.akK{Q:Exit→ab→Prop}{A:ab}{on:List (List Nat)}{gs:List az}(hs:List FuncId)(L:ez)(cl σ:List Nat)(hd:tP hs L on gs cl σ=true)(hi:ew L A)(h:∀ K:ab→Prop,(∀ B,Q .normal B→K B)→cd c.P hs K (ay (lT σ gs) A)):J c (.bS (some on) gs) Q A:=by
 intro code hc a w hs'
 cases code <;>simp only[eY] at hc <;>try (first | (cases hc;done) | ((repeat' split at hc) <;>cases hc;done))
 rename_i id bx draw
 split at hc
 ·rename_i gs' hgs
  split at hc
  case isFalse=>cases hc
  rename_i hok
  simp only[Option.some.injEq,aO.bS.injEq] at hc
  obtain ⟨he,rfl⟩:=hc
  cases draw with
  |false=>cases he
  |true =>
   simp only[cond_true,Option.some.injEq] at he
   subst he
   simp only[Bool.not_true,Bool.false_or] at hok
   have hp:=akl (j5 hgs).1 hd
   refine wpIn_region_any hok (Pe (K:=Q .normal) (fun B a w hk hs=>⟨B,hk,hs⟩) hgs hp bx.size (Array.replicate bx.size false) A a _ (by simp) ?_ ?_ hi ?_ ?_)
   ·intro i o _ h
    exfalso
    simp only[Array.getD_eq_getD_getElem?,Array.getElem?_replicate] at h
    split at h <;>simp at h
   ·refine Nat.le_trans (List.length_filter_le _ _) ?_
    rw[hp.len,(j5 hgs).1,Array.length_toList];exact Nat.le_refl _
   ·have hall:eW σ (Array.replicate bx.size false)=σ:=by
     simp only[eW]
     refine List.filter_eq_self.2 fun i hi =>?_
     have h1:=hp.lt i hi
     rw[(j5 hgs).1,Array.length_toList] at h1
     simp[h1]
    simp only[jz,hall]
    exact h _ fun _ hb=>hb
   ·obtain ⟨D,E,hs'⟩:=hs'
    exact ⟨D,E,hs'.grow (w' := { w with drawn:=w.drawn+1 }) ⟨rfl,rfl,rfl,Nat.le_refl _,fun _ _=>rfl⟩ (fun _ _ h=>h) (fun _ _ h _=>h) (fun b o h=>hs'.c9 b o h)⟩
 ·cases hc
def nx(ts:List (Nat×I)):ez→Prop
 | []=>True
 |(s,ns)::L=>(bH ts s).only (fun n=>ns.contains n)=true∧nx ts L
theorem ew.of{ts:List (Nat×I)}{os:List (Nat×ah)}{L:ez}(h:nx ts L):ew L (aq ts os):=by
 intro s ns hn
 simp only[aq]
 induction L with
 |nil=>cases hn
 |cons q L ih =>
  obtain ⟨s',ns'⟩:=q
  simp only[nx] at h
  simp only[jb,List.find?_cons] at hn
  split at hn
  ·rename_i e
   simp only[Option.map_some,Option.some.injEq] at hn
   simp only[beq_iff_eq] at e
   subst e hn
   exact h.1
  ·exact ih h.2 hn
end
end Go.Abs
namespace Go.Abs
open Go Go.RowKit
open Enc (enc)
section
variable {α:Type} [Enc α] {P:Program} {Y:Value→List I→List (Nat×ah)→cN→Prop} {K:ab→Prop} {A:ab} {rest:List az} {esz bytes:Nat}
theorem qc{n lo k:Nat}{xs:List α}(ho:A.o n=some (.box (.agg (xs.map enc))))(h:lo+k≤xs.length):eC A esz (.view n [] esz lo k)=some (((xs.drop lo).take k).map enc):=by
 have h1:cu A (.ptr n [])=some (.agg (xs.map enc)):=by simp only[cu,ho];rfl
 simp only[eC,h1,List.length_map]
 rw[if_pos ⟨h,trivial⟩,List.map_take,List.map_drop]
theorem MC{xs ys:List α}(h:xs.length=ys.length):I.cT (xs.map enc)=I.cT (ys.map enc):=by
 rw[rH,rH,h]
theorem uY{d:Option Nat}{e:Nat}(z:I)(hs:Enc.sz α=esz){n l:Nat}{xs ys:List α}(hy:ys≠[])(ho:A.o n=some (.box (.agg (xs.map enc))))(hr:l+ys.length≤xs.length) :
  gl A d e esz bytes z (enc ys) rest (.view n [] esz 0 l)=ay rest ((A.aN n (.box (.agg ((xs.take l++(ys++xs.drop (l+ys.length))).map enc)))).aP d (.view n [] esz 0 (l+ys.length))):=by
 have h1:=qc (A:=A) (esz:=esz) (lo:=0) (k:=l) ho (by omega)
 have h2:(I.agg (xs.map (enc (α:=α)))).at []=some (.agg (xs.map enc)):=rfl
 have h3:I.cT (ys.map (enc (α:=α)))=I.cT (((xs.map (enc (α:=α))).drop l).take ys.length):=by
  rw[←List.map_drop,←List.map_take]
  exact MC (by rw[List.length_take,List.length_drop];omega)
 simp only[gl,h1,qb A esz ys hs,fm]
 rw[if_neg (by simpa using hy)]
 simp only[ho,h2,List.length_map,Nat.zero_add]
 rw[if_pos hr,if_pos ⟨rfl,by rw[List.length_map,Nat.zero_add];exact h3⟩]
 simp only[iI,gP,List.length_map,List.map_append,List.map_take,List.map_drop]
end
theorem aln{n:Nat}{p:List Nat}{sz k total i:Nat}(h:i≤k)(hk:k≤total):∃ y,hU n p sz 0 k total (some (.int .i64 i)) none none=some y:=by
 simp only[hU,ic]
 rw[if_pos ⟨by omega,by omega,by omega⟩]
 split <;>exact ⟨_,rfl⟩
theorem tm(k:Nat):bH [] k=.c7:=rfl
def gY(L:List Nat):List (Nat×I)→List (Nat×I)
 | []=>[]
 |(s,v)::ts=>if L.contains s=true then (s,v)::gY L ts else gY L ts
theorem aia(L:List Nat):gY L []=[]:=rfl
theorem ah9(L:List Nat)(s:Nat)(v:I)(ts:List (Nat×I)):gY L ((s,v)::ts)=if L.contains s=true then (s,v)::gY L ts else gY L ts:=rfl
theorem Jr(L:List Nat)(t:Nat):∀ ts,bH (gY L ts) t=.c7∨bH (gY L ts) t=bH ts t
 | []=>.inl rfl
 |(s,v)::ts=>by
  simp only[gY]
  have ih:=Jr L t ts
  by_cases hs:L.contains s=true
  ·rw[if_pos hs]
   simp only[bH]
   split
   ·exact .inr rfl
   ·exact ih
  ·rw[if_neg hs]
   simp only[bH]
   split
   ·rename_i e
    subst e
    left
    have:∀ ts,bH (gY L ts) t=.c7:=by
     intro ts
     induction ts with
     |nil=>rfl
     |cons q ts ih2 =>
      obtain ⟨s',v'⟩:=q
      simp only[gY]
      split
      ·rename_i h'
       simp only[bH]
       have:t≠s':=fun e=>hs (e▸h')
       rw[if_neg this];exact ih2
      ·exact ih2
    exact this ts
   ·exact ih
theorem J.fN(L:List Nat){c:cJ}{x:aO}{Q:Exit→ab→Prop}{ts:List (Nat×I)}{os:List (Nat×ah)}(h:J c x Q (aq (gY L ts) os)):J c x Q (aq ts os):=by
 refine J.sub ?_ h
 rintro cc a w ⟨D,E,hs⟩
 refine ⟨D,E,hs.sz,hs.eQ,fun t =>?_,hs.dO,hs.c5,hs.c9,hs.bQ,hs.cS,hs.dR,hs.eV,hs.cF,hs.eX,hs.fE⟩
 simp only[aq]
 rcases Jr L t ts with e | e
 ·rw[e];simp[aT]
 ·rw[e];exact hs.dZ t
theorem xC:(∀ L,gY L []=[])∧(∀ L s v ts,gY L ((s,v)::ts)=if L.contains s=true then (s,v)::gY L ts else gY L ts)∧(∀ (a:Nat) l b,(a::l).contains b=(b==a||l.contains b))∧(∀ b:Nat,([]:List Nat).contains b=false)∧(∀ b,(false||b)=b)∧(∀ b,(true||b)=true)∧(∀ b,(b||true)=true)∧(∀ b,(b||false)=b)∧((false=true)=False) :=
 ⟨aia,ah9,fun _ _ _=>List.contains_cons,fun _=>rfl,fun _=>rfl,fun _=>rfl,fun b=>by cases b <;>rfl,fun b=>by cases b <;>rfl,by simp⟩
end Go.Abs
namespace Go.Abs
open Go Go.RowKit
open Enc (enc)
def xK:Option ah→Option (List I×List I)
 |some (.ct ks vs)=>some (ks,vs)
 |_=>none
noncomputable def xR(A:ab)(n:Nat)(rest:List az):Option (List I×List I)→cI
 |some (ks,vs)=>ay rest (A.aN n (.ct ks vs))
 |none=>.fail
noncomputable def xQ(A:ab)(n:Nat)(ty:cK)(k v:I)(rest:List az):Option ah→cI
 |some (.ct ks vs)=>xR A n rest (gb ty k v ks vs)
 |_=>.fail
noncomputable def xP(A:ab)(ty:cK)(k v:I)(rest:List az):I→cI
 | .mref n=>xQ A n ty k v rest (A.o n)
 |_=>.fail
noncomputable def xO(A:ab)(d:Nat)(rest:List az):Option ah→cI
 |none=>ay rest ((A.aN d (.ct [] [])).put d (.mref d))
 |some _=>.fail
open Classical in
noncomputable def tA(A:ab)(d bytes:Nat)(z:I)(rest:List az):I→cI
 | .int _ n=>if 0≤n∧n.toNat*bytes≤281474976710656∧n.toNat≤maxLen then ay rest ((A.aN d (.box (.agg (List.replicate n.toNat z)))).put d (.view d [] 1 0 n.toNat)) else .fail
 |_=>.fail
noncomputable def tz(A:ab)(d bytes:Nat)(z n:I)(rest:List az):Option ah→cI
 |none=>tA A d bytes z rest n
 |some _=>.fail
noncomputable def yD(A:ab)(d:Nat)(rest:List az):I→cI
 | .cU ks vs=>ay rest ((A.aN d (.it ks vs (List.range ks.length) none)).put d (.dx d))
 |_=>.fail
noncomputable def uh(A:ab)(d:Nat)(x:I)(rest:List az):Option ah→cI
 |none=>yD A d rest x
 |some _=>.fail
def vL:Option ah→Option I
 |some (.it ks vs _ cur)=>pw ks vs cur
 |_=>none
def vK(A:ab):I→Option I
 | .dx n=>vL (A.o n)
 |_=>none
open Classical in
noncomputable def pS(A:ab)(d:Option Nat)(n:Nat)(rest:List az):Option ah→cI
 |some (.it ks vs left _)=>if left=[] then ay rest (A.aP d (.tuple [.bool false])) else
   .any (fun i=>i∈left) fun i=>match ks[i]?,vs[i]? with
    |some kk,some x=>ay rest ((A.aN n (.it ks vs (left.filter (· != i)) (some i))).aP d (.tuple [.bool true,kk,x]))
    |_,_=>.fail
 |_=>.fail
noncomputable def xW(A:ab)(d:Option Nat)(rest:List az):I→cI
 | .dx n=>pS A d n rest (A.o n)
 |_=>.fail
section
variable (d:Option Nat) (rest:List az) (A:ab)
theorem ajy(x:aL):bN A d (.nilC x) rest=cP (mF (ae A x)) (db d rest A):=rfl
theorem ajC(neg:Bool)(x y:aL):bN A d (.ptrE neg x y) rest=cP (mJ neg (iZ (ae A x)) (iZ (ae A y))) (db d rest A):=rfl
theorem ajs(ty:cK)(z:I)(ok:Bool)(m k:aL):bN A d (.lk ty z ok m k) rest=cP (qX ty z ok (ae A k) (gq A (ae A m))) (db d rest A):=rfl
theorem aiG(n:Nat):gq A (.mref n)=xK (A.o n):=by
 simp only[gq];cases A.o n with
 |none=>rfl
 |some y=>cases y <;>rfl
theorem ajw(ty:cK)(m k v:aL):bN A none (.gK ty m k v) rest=xP A ty (ae A k) (ae A v) rest (ae A m):=by
 simp only[bN,bp]
 cases ae A m <;>rfl
theorem aju(d:Nat):bN A (some d) .jO rest=xO A d rest (A.o d):=by
 simp only[bN,bp];cases A.o d <;>rfl
theorem ajv(d e bytes:Nat)(z:I)(n:aL):bN A (some d) (.jP e bytes z n) rest=tz A d bytes z (ae A n) rest (A.o d):=by
 simp only[bN,bp]
 cases A.o d with
 |some _=>rfl
 |none=>simp only[tz];cases ae A n <;>rfl
theorem ajD(d:Nat)(x:aL):bN A (some d) (.kl x) rest=uh A d (ae A x) rest (A.o d):=by
 simp only[bN,bp]
 cases A.o d with
 |some _=>rfl
 |none=>simp only[uh];cases ae A x <;>rfl
theorem ajh(x:aL):bN A d (.ent x) rest=cP (vK A (ae A x)) (db d rest A):=by
 simp only[bN,bp,bu]
 cases ae A x <;>rfl
theorem ajA(x:aL):bN A d (.jx x) rest=xW A d rest (ae A x):=by
 simp only[bN,bp]
 cases ae A x <;>rfl
end
theorem eB :
  (∀ d rest A x,bN A d (.nilC x) rest=cP (mF (ae A x)) (db d rest A))∧(∀ n p,mF (.ptr n p)=some (.ptr n p))∧(∀ x,mF (.ref x)=some (.ref x)) ∧
  (∀ d rest A neg x y,bN A d (.ptrE neg x y) rest=cP (mJ neg (iZ (ae A x)) (iZ (ae A y))) (db d rest A))∧(iZ .nilp=some true)∧(∀ n p,iZ (.ptr n p)=some false)∧(∀ x,iZ (.ref x)=some false) ∧
  (mJ false (some true) (some true)=some (.bool true))∧(mJ false (some false) (some true)=some (.bool false))∧(mJ true (some true) (some true)=some (.bool false))∧(mJ true (some false) (some true)=some (.bool true)) ∧
  (∀ d rest A ty z ok m k,bN A d (.lk ty z ok m k) rest=cP (qX ty z ok (ae A k) (gq A (ae A m))) (db d rest A))∧(∀ A n,gq A (.mref n)=xK (A.o n))∧(∀ A ks vs,gq A (.cU ks vs)=some (ks,vs))∧(∀ ks vs,xK (some (.ct ks vs))=some (ks,vs)) ∧
  (∀ ty z ok k ks vs,qX ty z ok k (some (ks,vs))=qY ok (gp ty z k ks vs))∧(∀ v b,qY false (some (v,b))=some v)∧(∀ v b,qY true (some (v,b))=some (.tuple [v,.bool b])) ∧
  (∀ rest A ty m k v,bN A none (.gK ty m k v) rest=xP A ty (ae A k) (ae A v) rest (ae A m))∧(∀ A ty k v rest n,xP A ty k v rest (.mref n)=xQ A n ty k v rest (A.o n))∧(∀ A n ty k v rest ks vs,xQ A n ty k v rest (some (.ct ks vs))=xR A n rest (gb ty k v ks vs)) ∧
  (∀ A n rest ks vs,xR A n rest (some (ks,vs))=ay rest (A.aN n (.ct ks vs))) ∧
  (∀ rest A d,bN A (some d) .jO rest=xO A d rest (A.o d))∧(∀ A d rest,xO A d rest none=ay rest ((A.aN d (.ct [] [])).put d (.mref d))) ∧
  (∀ rest A d e bytes z n,bN A (some d) (.jP e bytes z n) rest=tz A d bytes z (ae A n) rest (A.o d))∧(∀ A d bytes z n rest,tz A d bytes z n rest none=tA A d bytes z rest n) ∧
  (∀ rest A d x,bN A (some d) (.kl x) rest=uh A d (ae A x) rest (A.o d))∧(∀ A d x rest,uh A d x rest none=yD A d rest x)∧(∀ A d rest ks vs,yD A d rest (.cU ks vs)=ay rest ((A.aN d (.it ks vs (List.range ks.length) none)).put d (.dx d))) ∧
  (∀ d rest A x,bN A d (.ent x) rest=cP (vK A (ae A x)) (db d rest A))∧(∀ A n,vK A (.dx n)=vL (A.o n))∧(∀ ks vs l cur,vL (some (.it ks vs l cur))=pw ks vs cur) ∧
  (∀ d rest A x,bN A d (.jx x) rest=xW A d rest (ae A x))∧(∀ A d rest n,xW A d rest (.dx n)=pS A d n rest (A.o n)) :=
 ⟨ajy,fun _ _=>rfl,fun _=>rfl,ajC,rfl,fun _ _=>rfl,fun _=>rfl,rfl,rfl,rfl,rfl,ajs,aiG,fun _ _ _=>rfl,fun _ _=>rfl,fun _ _ _ _ _ _=>rfl,fun _ _=>rfl,fun _ _=>rfl,
  fun rest A ty m k v=>ajw rest A ty m k v,fun _ _ _ _ _ _=>rfl,fun _ _ _ _ _ _ _ _=>rfl,fun _ _ _ _ _=>rfl,fun rest A d=>aju rest A d,fun _ _ _=>rfl,fun rest A d e bytes z n=>ajv rest A d e bytes z n,fun _ _ _ _ _ _=>rfl,
  fun rest A d x=>ajD rest A d x,fun _ _ _ _=>rfl,fun _ _ _ _ _=>rfl,ajh,fun _ _=>rfl,fun _ _ _ _=>rfl,ajA,fun _ _ _ _=>rfl⟩
theorem cC:(∀ n p z lo k,b6 none (.view n p z lo k)=true)∧(∀ n,b6 none (.mref n)=true)∧(∀ n p,b6 none (.ptr n p)=true)∧(∀ x,b6 none (.ref x)=true)∧b6 none .nilp=true∧b6 none .de=true∧b6 none (.raw (.map none))=true∧(∀ ks vs,b6 none (.cU ks vs)=true)∧(∀ {α:Type} [Enc α] (l:List α),b6 none (enc l)=true) :=
 ⟨fun _ _ _ _ _=>rfl,fun _=>rfl,fun _ _=>rfl,fun _=>rfl,rfl,rfl,rfl,fun _ _=>rfl,fun l=>by simp[kH,nh]⟩
theorem Jx{A:ab}{d bytes:Nat}{z:I}{rest:List az}{n:Nat}(h1:n*bytes≤281474976710656)(h2:n≤maxLen):tA A d bytes z rest (.int .i64 n)=ay rest ((A.aN d (.box (.agg (List.replicate n z)))).put d (.view d [] 1 0 n)):=by
 simp only[tA,Int.toNat_natCast]
 rw[if_pos ⟨Int.natCast_nonneg n,h1,h2⟩]
section
variable {α:Type} [Enc α] [DecidableEq α] {ty:cK}
theorem vW(ar:∀ x y:α,cg ty (enc x) (enc y)=some (decide (x=y)))(k:α):∀ (ks:List α) (i:Nat),fc ty (enc k) (ks.map enc) i=some ((ks.findIdx? fun x=>decide (k=x)).map (· + i))
 | [],i=>rfl
 |x::ks,i=>by
  simp only[List.map_cons,fc,ar,List.findIdx?_cons]
  by_cases h:k=x
  ·simp[h]
  ·simp only[h,decide_false,Bool.false_eq_true,if_false]
   rw[vW ar k ks (i+1)]
   cases ks.findIdx? fun x=>decide (k=x) with
   |none=>rfl
   |some j=>simp;omega
theorem xG(ar:∀ x y:α,cg ty (enc x) (enc y)=some (decide (x=y)))(z:I)(k:α)(ks:List α)(vs:List I) :
  gp ty z (enc k) (ks.map enc) vs=match ks.findIdx? fun x=>decide (k=x) with
   |some i=>(vs[i]?).map fun v=>(v,true)
   |none=>some (z,false):=by
 simp only[gp,ar,Option.isSome_some,if_true,vW ar]
 cases ks.findIdx? fun x=>decide (k=x) <;>rfl
theorem Jy(ar:∀ x y:α,cg ty (enc x) (enc y)=some (decide (x=y)))(k:α)(v:I)(hv:v.cm=true)(ks:List α)(vs:List I) :
  gb ty (enc k) v (ks.map enc) vs=match ks.findIdx? fun x=>decide (k=x) with
   |some i=>some (ks.map enc,vs.set i v)
   |none=>some ((ks++[k]).map enc,vs++[v]):=by
 simp only[gb,ar,Option.isSome_some,hv,I9 (dP k),and_self,if_true,vW ar]
 cases ks.findIdx? fun x=>decide (k=x) with
 |none=>simp
 |some i=>rfl
omit [Enc α] in
theorem Dz{k:α}{ks:List α} : (ks.findIdx? fun x=>decide (k=x)).isSome=decide (k∈ks):=by
 induction ks with
 |nil=>rfl
 |cons x ks ih =>
  simp only[List.findIdx?_cons,List.mem_cons]
  by_cases h:k=x
  ·simp[h]
  ·simp only[h,decide_false,Bool.false_eq_true,if_false,Option.isSome_map,ih,false_or]
theorem aiz(ar:∀ x y:α,cg ty (enc x) (enc y)=some (decide (x=y)))(k:α)(ks:List α):gp ty (.bool false) (enc k) (ks.map enc) (List.replicate ks.length (.bool true))=some (.bool (decide (k∈ks)),decide (k∈ks)):=by
 rw[xG ar,←Dz]
 cases h:ks.findIdx? fun x=>decide (k=x) with
 |none=>rfl
 |some i =>
  have:=(List.findIdx?_eq_some_iff_getElem.1 h).1
  simp[this]
def m4{α:Type}[DecidableEq α](ks:List α)(k:α):List α:=if k∈ks then ks else ks++[k]
omit [Enc α] in
theorem aiK{ks:List α}{k x:α} : x∈m4 ks k↔x=k∨x∈ks:=by
 unfold m4
 split
 ·rename_i h
  exact ⟨.inr,fun h2=>h2.elim (fun e=>e▸h) id⟩
 ·simp[or_comm]
theorem aiV(ar:∀ x y:α,cg ty (enc x) (enc y)=some (decide (x=y)))(k:α)(ks:List α):gb ty (enc k) (.bool true) (ks.map enc) (List.replicate ks.length (.bool true))=some ((m4 ks k).map enc,List.replicate (m4 ks k).length (.bool true)):=by
 rw[Jy ar k _ rfl]
 have hm:=Dz (k:=k) (ks:=ks)
 cases h:ks.findIdx? fun x=>decide (k=x) with
 |none =>
  rw[h] at hm
  have:k∉ks:=by simpa using hm.symm
  simp only[m4,if_neg this]
  congr 2
  rw[List.length_append,List.length_singleton,List.replicate_succ']
 |some i =>
  rw[h] at hm
  have:k∈ks:=by simpa using hm.symm
  simp only[m4,if_pos this]
  congr 2
  have:=(List.findIdx?_eq_some_iff_getElem.1 h).1
  exact List.ext_getElem (by simp) fun j h1 h2=>by
   simp only[List.getElem_set,List.getElem_replicate];split <;>rfl
end
section
variable {α:Type} [Enc α]
theorem Ad{xs:List α}{i:Nat}(d:α)(h:i<xs.length):jt i [] (some (xs.map enc))=some (enc (xs.getD i d)):=by
 simp[jt,nU,h,I.at,List.getD_eq_getElem?_getD]
theorem MS{A:ab}{n i:Nat}{xs:List α}(v u:α){rest:List az}(hA:Enc.ga α=false)(h:i<xs.length):dg A none n [i] (.agg (xs.map enc)) (enc v) rest (some (enc u))=ay rest (A.aN n (.box (.agg ((xs.set i v).map enc)))):=by
 rw[eD (dQ v) (by rw[kH,hA];rfl) ((eM v).trans (eM u).symm)]
 have h2:(xs.map (enc (α:=α)))[i]?=some (enc (xs[i])):=by simp[h]
 simp only[I.dH,h2,List.map_set]
end
theorem MT{A:ab}{n i:Nat}{xs:List Bool}(h:i<xs.length)(v u:Bool)(rest:List az):dg A none n [i] (.agg (xs.map enc)) (.bool v) rest (some (.bool u))=ay rest (A.aN n (.box (.agg ((xs.set i v).map enc)))):=MS v u rfl h
theorem mY{A:ab}{n i:Nat}{xs:List Int}(h:i<xs.length)(v u:Int)(rest:List az):dg A none n [i] (.agg (xs.map enc)) (.int .i64 v) rest (some (.int .i64 u))=ay rest (A.aN n (.box (.agg ((xs.set i v).map enc)))):=MS v u rfl h
theorem sh{xs:List Bool}{i:Nat}(h:i<xs.length):jt i [] (some (xs.map enc))=some (.bool (xs.getD i false)):=Ad false h
theorem fL{xs:List Int}{i:Nat}(h:i<xs.length):jt i [] (some (xs.map enc))=some (.int .i64 (xs.getD i 0)):=Ad 0 h
theorem nz{m sz lo l i:Nat}{fs:List I}(h:i<l):ja m [] sz lo l sz (i:Int) (some fs)=some (.ptr m [lo+i]):=by rw[xA h];rfl
theorem XR{α:Type}[Enc α]{A:ab}{m n sz k:Nat}{xs:List α}(ho:A.o n=some (.box (.agg (xs.map enc))))(hs:Enc.sz α=sz)(hk:k=xs.length):dv A (m+1) (.view n [] sz 0 k)=some (enc xs):=by
 subst hk hs
 have h1:cu A (.ptr n [])=some (.agg (xs.map enc)):=by simp only[cu,ho];rfl
 simp only[dv,I.br,Bool.false_eq_true,if_false,h1]
 have h2:((xs.map (enc (α:=α))).drop 0).take xs.length=xs.map enc:=by rw[List.drop_zero,List.take_of_length_le (by simp)]
 rw[h2,if_pos (jI xs),fW]
theorem kE:(∀ {α:Type} [Enc α] (x:α),(enc x).br=true)∧(∀ n p z lo k,(I.view n p z lo k).br=false)∧(∀ n,(I.mref n).br=false)∧(∀ n p,(I.ptr n p).br=false)∧(∀ n k,(I.own n k).br=false) :=
 ⟨@dP,fun _ _ _ _ _=>rfl,fun _=>rfl,fun _ _=>rfl,fun _ _=>rfl⟩
end Go.Abs
namespace Go.Abs
open Go Go.RowKit
open Enc (enc)
theorem aC.O8{A:ab}{d n T z:Nat}(hd:A.t d=.nils z)(hn:A.o n=none)(hlt:n<1000000):aC A ((A.aN n (.cM T [])).put d (.own n 0)):=by
 rintro c a w ⟨D,E,h⟩
 have ar:E n=none:=by have:=h.bQ n;rw[hn] at this;exact this
 have hl:dN w D E w D (fun m=>if m=n then some (.rw none 0) else E m):=by
  have en:∀ {m:Nat} {e:bR},E m=some e→(if m=n then some (.rw none 0) else E m)=some e:=fun {m e} he=>by
   have:m≠n:=fun e=>by rw[e,ar] at he;cases he
   rw[if_neg this];exact he
  refine ⟨fun _ _ h=>h,fun _ _ _ _ h=>h,fun m b aR he=>en he,fun m aD l he =>?_,fun m b he=>en he,fun m b he=>en he,fun _ _ _ _ h=>h⟩
  ·have:m≠n:=fun e=>by rw[e,ar] at he;cases he
   exact ⟨aD,l,by simp only[if_neg this];exact he,Nat.le_refl _,fun _=>rfl⟩
 refine ⟨D,fun m=>if m=n then some (.rw none 0) else E m,h.sz,h.eQ,fun t =>?_,h.dO,h.c5,h.c9,fun m =>?_,fun m m' e e' b h1 h2 h3 h4 =>?_,fun m e hm =>?_,h.eV,h.cF,h.eX,h.fE⟩
 ·simp only[ab.put,ab.aN]
  by_cases ht:t=d
  ·subst ht
   simp only[if_true]
   have hv:=h.dZ t
   rw[hd] at hv
   obtain ⟨cs,q1,q2⟩:=hv
   simp only[af] at q2
   subst q2
   refine ⟨[.slice none 0 0],by simpa[bK,I.isAgg] using q1,?_⟩
   simp only[af,if_true]
   exact ⟨none,0,rfl,Nat.le_refl _,⟨_,_,_,rfl⟩,fun _=>trivial⟩
  ·simp only[if_neg ht]
   exact aT.bJ hl (h.dZ t)
 ·simp only[ab.put,ab.aN]
  by_cases hm:m=n
  ·subst hm
   simp only[if_true,c8]
   exact ⟨none,by simp,by simp,trivial⟩
  ·simp only[if_neg hm]
   exact (h.bQ m).bJ hl (by simp only[if_neg hm]) fun _ _ _ _=>⟨rfl,fun _ ho=>ho⟩
 ·by_cases hm:m=n <;>by_cases hm':m'=n
  ·rw[hm,hm']
  ·simp only[if_pos hm,Option.some.injEq] at h1;subst h1;simp[bR.aD] at h3
  ·simp only[if_pos hm',Option.some.injEq] at h2;subst h2;simp[bR.aD] at h4
  ·simp only[if_neg hm] at h1;simp only[if_neg hm'] at h2;exact h.cS m m' e e' b h1 h2 h3 h4
 ·have hmn:m≠n:=fun e=>by rw[e,h.j8 (.inr hlt)] at hm;cases hm
  simp only[if_neg hmn]
  exact h.dR m e hm
theorem aC.uT{ts:List (Nat×I)}{os:List (Nat×ah)}(d n T z:Nat)(hd:bH ts d=.nils z)(hn:ai os n=none){B:ab}(h:aC (aq ((d,.own n 0)::ts) ((n,.cM T [])::os)) B)(hlt:n<1000000:=by decide):aC (aq ts os) B :=
 ((aC.O8 (A:=aq ts os) (T:=T) hd hn hlt).trans (by rw[lO,tu];exact aC.refl _)).trans h
theorem aC.O9{A:ab}{m n T z:Nat}{p:List Nat}{b:I}(hm:A.o m=some (.box b))(hp:b.at p=some (.nils z))(hn:A.o n=none)(hlt:n<1000000):aC A ((A.aN n (.cM T [])).aN m (.box (b.dH p (.own n 0)))):=by
 rintro c a w ⟨D,E,h⟩
 have ar:E n=none:=by have:=h.bQ n;rw[hn] at this;exact this
 have hmn:m≠n:=fun e=>by rw[e,hn] at hm;cases hm
 have hl:dN w D E w D (fun m=>if m=n then some (.rw none 0) else E m):=by
  have en:∀ {m:Nat} {e:bR},E m=some e→(if m=n then some (.rw none 0) else E m)=some e:=fun {m e} he=>by
   have:m≠n:=fun e=>by rw[e,ar] at he;cases he
   rw[if_neg this];exact he
  refine ⟨fun _ _ h=>h,fun _ _ _ _ h=>h,fun m b aR he=>en he,fun m aD l he =>?_,fun m b he=>en he,fun m b he=>en he,fun _ _ _ _ h=>h⟩
  ·have:m≠n:=fun e=>by rw[e,ar] at he;cases he
   exact ⟨aD,l,by simp only[if_neg this];exact he,Nat.le_refl _,fun _=>rfl⟩
 refine ⟨D,fun m=>if m=n then some (.rw none 0) else E m,h.sz,h.eQ,fun t=>aT.bJ hl (h.dZ t),h.dO,h.c5,h.c9,fun k =>?_,fun m m' e e' b h1 h2 h3 h4 =>?_,fun m e hm =>?_,h.eV,h.cF,h.eX,h.fE⟩
 ·simp only[ab.aN]
  by_cases hk:k=m
  ·subst hk
   have ho:=h.bQ k
   rw[hm] at ho
   obtain ⟨b',cs,T',h1,h2,h3,h4,h5⟩:=ho
   obtain ⟨q1,q2⟩:=yu (y:=.own n 0) (af.bJ hl _ _ h4) hp (fun ds hd=>by
    simp only[af] at hd
    subst hd
    simp only[af,if_true]
    exact ⟨none,0,rfl,Nat.le_refl _,⟨_,_,_,rfl⟩,fun _=>trivial⟩) rfl
   simp only[if_true,c8]
   exact ⟨b',cs,T',by rw[q2];simp only[if_neg hmn];exact h1,h2,h3,q1,h5⟩
  ·simp only[if_neg hk]
   by_cases hkn:k=n
   ·subst hkn
    simp only[if_true,c8]
    exact ⟨none,by simp,by simp,trivial⟩
   ·simp only[if_neg hkn]
    exact (h.bQ k).bJ hl (by simp only[if_neg hkn]) fun _ _ _ _=>⟨rfl,fun _ ho=>ho⟩
 ·by_cases hm:m=n <;>by_cases hm':m'=n
  ·rw[hm,hm']
  ·simp only[if_pos hm,Option.some.injEq] at h1;subst h1;simp[bR.aD] at h3
  ·simp only[if_pos hm',Option.some.injEq] at h2;subst h2;simp[bR.aD] at h4
  ·simp only[if_neg hm] at h1;simp only[if_neg hm'] at h2;exact h.cS m m' e e' b h1 h2 h3 h4
 ·have hmn:m≠n:=fun e=>by rw[e,h.j8 (.inr hlt)] at hm;cases hm
  simp only[if_neg hmn]
  exact h.dR m e hm
theorem aC.Pa{ts:List (Nat×I)}{os:List (Nat×ah)}(m n T z:Nat)(p:List Nat)(b:I)(hm:ai os m=some (.box b))(hp:b.at p=some (.nils z))(hn:ai os n=none){B:ab}(h:aC (aq ts ((m,.box (b.dH p (.own n 0)))::(n,.cM T [])::os)) B)(hlt:n<1000000:=by decide):aC (aq ts os) B :=
 ((aC.O9 (A:=aq ts os) (T:=T) hm hp hn hlt).trans (by rw[lO,lO];exact aC.refl _)).trans h
theorem sa{A:ab}{d:Option Nat}{e bytes n l:Nat}{xs:List Int}{y:Int}{rest:List az}(hl:l=xs.length)(h1:xs.length+1≤maxLen)(h2:(xs.length+1)*bytes≤140737488355328) :
  o8 A d e 1 bytes (.int .i64 0) n l e xs rest (enc [y])=ay rest ((A.aN n (.cM e (xs++[y]))).aP d (.own n (xs.length+1))):=by
 show o8 A d e 1 bytes (.int .i64 0) n l e xs rest (.slice 1 [.int .i64 y])=_
 simp only[o8]
 rw[if_pos ⟨hl,rfl,rfl,rfl,rfl,by simp,h1,h2⟩]
 rfl
def fg(n k:Nat):I→I
 | .own n' k'=>if n'=n∧k'=k then .view n [] 1 0 k else .own n' k'
 |v=>v
def fJ(n:Nat):I→I
 | .own n' k'=>if n'=n∧k'=0 then .nils 1 else .own n' k'
 |v=>v
def ir(f:I→I):ah→ah
 | .box v=>.box (f v)
 |y=>y
def kR(n k:Nat)(v:I):Prop:=v=.own n k∨v.only (fun j=>j != n)=true
def ajW(n k:Nat)(y:ah):Prop:=y=.box (.own n k)∨y.only (fun j=>j != n)=true
theorem qh{n k:Nat}{v:I}(h:v.only (fun j=>j != n)=true):fg n k v=v:=by
 cases v <;>try rfl
 rename_i n' k'
 simp only[I.only,bne_iff_ne,ne_eq] at h
 simp only[fg,h,false_and,if_false]
theorem y8{n:Nat}{v:I}(h:v.only (fun j=>j != n)=true):fJ n v=v:=by
 cases v <;>try rfl
 rename_i n' k'
 simp only[I.only,bne_iff_ne,ne_eq] at h
 simp only[fJ,h,false_and,if_false]
theorem nA(f:I→I)(hf:f .c7=.c7)(ts:List (Nat×I))(t:Nat):bH (ts.map fun q=>(q.1,f q.2)) t=f (bH ts t):=by
 induction ts with
 |nil=>exact hf.symm
 |cons q ts ih =>
  obtain ⟨k,v⟩:=q
  simp only[List.map_cons,bH]
  split
  ·rfl
  ·exact ih
theorem re(f:ah→ah)(os:List (Nat×ah))(t:Nat):ai (os.map fun q=>(q.1,f q.2)) t=(ai os t).map f:=by
 induction os with
 |nil=>rfl
 |cons q os ih =>
  obtain ⟨k,v⟩:=q
  simp only[List.map_cons,ai]
  split
  ·rfl
  ·exact ih
theorem c8.dD{M:Nat→Prop}{w:World}{D:aQ}{E E':aU}{p:Nat→Bool}(hp:∀ n,p n=true→E' n=E n){m:Nat}(ar:E' m=E m){y:ah}(hon:y.only p=true)(ho:c8 M w D E m (some y)):c8 M w D E' m (some y):=by
 cases y with
 |box x =>
  obtain ⟨b,cs,T,k1,k2,k3,k4,k5⟩:=ho
  exact ⟨b,cs,T,ar.trans k1,k2,k3,af.dD hp _ _ (by simpa[ah.only] using hon) k4,k5⟩
 |bT T sz es =>
  obtain ⟨aD,k1,k2,k3⟩:=ho
  refine ⟨aD,ar.trans k1,k2,?_⟩
  cases aD with
  |none=>exact k3
  |some bc =>
   obtain ⟨b,cap⟩:=bc
   obtain ⟨cs,pre,rest,q1,q2,q3,q4,q5⟩:=k3
   exact ⟨cs,pre,rest,q1,q2,q3,aJ.dD hp _ _ (by simpa[ah.only] using hon) q4,q5⟩
 |cM T xs =>
  obtain ⟨aD,k1,k2,k3⟩:=ho
  exact ⟨aD,ar.trans k1,k2,k3⟩
 |dL x =>
  obtain ⟨b,k1,k2⟩:=ho
  exact ⟨b,ar.trans k1,k2⟩
 |ct ks vs =>
  obtain ⟨b,es,ck,k1,k2,k3,k4,k5,k6,k7⟩:=ho
  simp only[ah.only,Bool.and_eq_true] at hon
  exact ⟨b,es,ck,ar.trans k1,k2,k3,k4,aI.dD hp _ _ hon.1 k5,aI.dD hp _ _ hon.2 k6,k7⟩
 |it ks vs left cur =>
  obtain ⟨r,b,es,ck,si,se,la,k1,k2,k3,k4,k5,k6,k7⟩:=ho
  simp only[ah.only,Bool.and_eq_true] at hon
  exact ⟨r,b,es,ck,si,se,la,ar.trans k1,k2,k3,k4,aI.dD hp _ _ hon.1 k5,aI.dD hp _ _ hon.2 k6,k7⟩
theorem rG(xs:List Int):(I.agg (xs.map enc)).aR=.eh (List.replicate xs.length .one):=by
 show cO.eh (I.cT _)=_
 congr 1
 induction xs with
 |nil=>rfl
 |cons x xs ih=>simp only[List.map_cons,I.cT,ih,List.length_cons,List.replicate_succ];rfl
theorem ry{w:World}{D:aQ}{E:aU} : ∀ {xs:List Int},(∀ x∈xs,IntKind.i64.min≤x∧x≤IntKind.i64.max)→aJ w D E (xs.map enc) (xs.map (Value.int .i64))
 | [],_=>rfl
 |x::xs,h=>⟨[.int .i64 x],xs.map (Value.int .i64),rfl,⟨rfl,h x (by simp)⟩,ry fun y hy=>h y (by simp[hy])⟩
theorem aC.M5{ts:List (Nat×I)}{os:List (Nat×ah)}{n T:Nat}{B:ab}(hn:ai os n=some (.cM T []))
  (h:aC (aq (ts.map fun q=>(q.1,fJ n q.2)) (os.map fun q=>(q.1,ir (fJ n) q.2))) B):aC (aq ts os) B:=by
 refine aC.trans ?_ h
 rintro c a w ⟨D,E,hs⟩
 obtain ⟨aD,ar,-,hblk⟩:=hs.rN (n:=n) (T:=T) (xs:=[]) hn
 have hnone:aD=none:=by
  cases aD with
  |none=>rfl
  |some bc=>obtain ⟨b,cap⟩:=bc;obtain ⟨_,_,_,_,_,h,_⟩:=hblk;exact absurd rfl h
 subst hnone
 have conv:∀ (v:I) (cs:List Value),af w D E v cs→af w D E (fJ n v) cs:=fun v cs hr=>by
  cases v <;>try exact hr
  rename_i n' k'
  simp only[fJ]
  split
  ·rename_i hh
   obtain ⟨rfl,rfl⟩:=hh
   obtain ⟨blk',l,q3,q4,q5,q6⟩:=hr
   rw[ar] at q3
   simp only[Option.some.injEq,bR.rw.injEq,List.length_nil] at q3
   obtain ⟨rfl,rfl⟩:=q3
   exact q6 rfl
  ·exact hr
 refine ⟨D,E,hs.sz,hs.eQ,fun t =>?_,hs.dO,hs.c5,hs.c9,fun m =>?_,hs.cS,hs.dR,hs.eV,hs.cF,hs.eX,hs.fE⟩
 ·show aT w D E (bH _ t) _
  rw[nA _ rfl]
  have:=hs.dZ t
  simp only[aq] at this
  revert this
  generalize bH ts t=v
  intro hv
  cases v <;>try exact hv
  rename_i n' k'
  obtain ⟨cs,q1,q2⟩:=hv
  have:=conv _ _ q2
  revert this
  simp only[fJ]
  split
  ·intro this;exact ⟨cs,q1,this⟩
  ·intro this;exact ⟨cs,q1,this⟩
 ·show c8 _ w D E m (ai _ m)
  rw[re]
  have:=hs.bQ m
  simp only[aq] at this
  revert this
  cases ai os m with
  |none=>exact id
  |some y =>
   cases y <;>try exact id
   rename_i x
   rintro ⟨b,cs,T,k1,k2,k3,k4,k5⟩
   refine ⟨b,cs,T,?_,k2,k3,conv _ _ k4,k5⟩
   rw[k1]
   have:(fJ n x).aR=x.aR:=by
    cases x <;>try rfl
    simp only[fJ]
    split <;>rfl
   rw[this]
theorem J.zd{c:cJ}{x:aO}{Q:Exit→ab→Prop}{ts:List (Nat×I)}{os:List (Nat×ah)}{n T:Nat}{xs:List Int}(hn:ai os n=some (.cM T xs))(hne:xs≠[])(hlt:n<1000000)
  (ht:∀ t,kR n xs.length (bH ts t)) (ho:∀ m y,ai os m=some y→m≠n→ajW n xs.length y)
  (h:∀ q:Nat,J c x Q (aq (ts.map fun p=>(p.1,fg n xs.length p.2)) ((n,.box (.agg ((xs++List.replicate q 0).map enc)))::os.map fun p=>(p.1,ir (fg n xs.length) p.2)))):J c x Q (aq ts os):=by
 rintro code hc a w ⟨D,E,hs⟩
 obtain ⟨aD,ar,hr,hblk⟩:=hs.rN (n:=n) hn
 cases aD with
 |none=>exact absurd hblk hne
 |some bc =>
 obtain ⟨b,cap⟩:=bc
 obtain ⟨cs,q,hM,hb,hcs,-,hcap,hmax,hD⟩:=hblk
 have hp:∀ j,(fun j=>j != n) j=true→(fun j=>if j=n then some (bR.aB b (.eh (List.replicate (xs.length+q) .one))) else E j) j=E j:=fun j hj=>by
  have:j≠n:=by simpa using hj
  simp only[if_neg this]
 have conv:∀ cs0,af w D E (.own n xs.length) cs0→af w D (fun j=>if j=n then some (bR.aB b (.eh (List.replicate (xs.length+q) .one))) else E j) (.view n [] 1 0 xs.length) cs0:=fun cs0 hr=>by
  obtain ⟨blk',l,q3,q4,q5,q6⟩:=hr
  rw[ar] at q3
  simp only[Option.some.injEq,bR.rw.injEq] at q3
  obtain ⟨rfl,rfl⟩:=q3
  have:=q6 rfl
  refine ⟨b,_,0,List.replicate (xs.length+q) .one,if_pos rfl,rfl,rfl,?_,by rw[List.length_replicate];omega,by rw[List.length_replicate];omega,fun s hs =>?_⟩
  ·rw[this,List.length_replicate]
   simp only[Nat.zero_mul,Nat.add_zero,Nat.sub_zero,hcap]
  ·rw[List.eq_of_mem_replicate hs];rfl
 refine h q code hc a w ⟨D,fun j=>if j=n then some (.aB b (.eh (List.replicate (xs.length+q) .one))) else E j,hs.sz,hs.eQ,fun t =>?_,hs.dO,hs.c5,hs.c9,fun m =>?_,fun m m' e e' b1 h1 h2 h3 h4 =>?_,fun m e hm =>?_,hs.eV,hs.cF,hs.eX,hs.fE⟩
 ·show aT w D _ (bH _ t) _
  rw[nA _ rfl]
  have hv:=hs.dZ t
  simp only[aq] at hv
  rcases ht t with h1 | h1
  ·rw[h1] at hv ⊢
   simp only[fg,and_self,if_true]
   obtain ⟨cs0,q1,q2⟩:=hv
   exact ⟨cs0,q1,conv _ q2⟩
  ·rw[qh h1]
   exact aT.dD hp h1 hv
 ·show c8 _ w D _ m (ai _ m)
  simp only[ai]
  by_cases hm:m=n
  ·subst hm
   simp only[if_true]
   refine ⟨b,cs,T,?_,hM,hb,?_,hD⟩
   ·simp only[if_true]
    rw[rG,List.length_append,List.length_replicate]
   ·show aJ w D _ _ _
    rw[hcs]
    refine ry fun y hy =>?_
    rcases List.mem_append.1 hy with hy | hy
    ·exact hr y hy
    ·rw[List.eq_of_mem_replicate hy];decide
  ·simp only[if_neg hm]
   rw[re]
   have hob:=hs.bQ m
   simp only[aq] at hob
   cases hy:ai os m with
   |none=>rw[hy] at hob;simp only[c8,Option.map_none] at hob ⊢;rw[if_neg hm];exact hob
   |some y =>
    rw[hy] at hob
    rcases ho m y hy hm with rfl | h1
    ·obtain ⟨b1,cs1,T1,k1,k2,k3,k4,k5⟩:=hob
     refine ⟨b1,cs1,T1,?_,k2,k3,?_,k5⟩
     ·simp only[if_neg hm]
      rw[k1]
      simp only[fg,and_self,if_true];rfl
     ·simp only[fg,and_self,if_true]
      exact conv _ k4
    ·have e:ir (fg n xs.length) y=y:=by
      cases y <;>try rfl
      simp only[ah.only] at h1
      simp only[ir,qh h1]
     simp only[Option.map_some,e]
     exact hob.dD hp (if_neg hm) h1
 ·have cut:∀ m e,(if m=n then some (bR.aB b (.eh (List.replicate (xs.length+q) .one))) else E m)=some e→∃ e2,E m=some e2∧e2.aD=e.aD:=fun m e he=>by
   by_cases hm:m=n
   ·subst hm
    rw[if_pos rfl] at he
    cases he
    exact ⟨_,ar,rfl⟩
   ·rw[if_neg hm] at he
    exact ⟨e,he,rfl⟩
  obtain ⟨e2,k1,k2⟩:=cut m e h1
  obtain ⟨e3,k3,k4⟩:=cut m' e' h2
  exact hs.cS m m' e2 e3 b1 k1 k3 (k2.trans h3) (k4.trans h4)
 ·have hmn:m≠n:=fun e=>by rw[e,hs.j8 (.inr hlt)] at hm;cases hm
  simp only[if_neg hmn]
  exact hs.dR m e hm
end Go.Abs
namespace Go.Abs
open Go Go.RowKit
def Jc(n:Nat)(cl:List Nat)(i:Nat):Bool:=(List.range n).all fun j=>j==i||(cl.getD i 0).testBit j
def tQ(hs:List FuncId)(L:ez)(on:List (List Nat))(gs:List az)(cl:List Nat)(σ:List Nat):Bool :=
 (Nat.beq σ.length gs.length&&(rj σ&&(σ.all (fun i=>decide (i<gs.length))&&((List.range gs.length).all (fun i=>σ.contains i)&&(List.range gs.length).all fun i=>oz (gs.getD i default).op&&(im L (gs.getD i default)||(Jc gs.length cl i&&σ.getLast?==some i))))))&&(qt hs L gs cl [] σ&&(List.range gs.length).all fun i=>(on.getD i []).all (fun k=>decide (k<i))&&Nat.beq (cl.getD i 0) (nN cl (on.getD i [])))
structure zO (hs:List FuncId) (L:ez) (l:List Oper) (gs:List az) (σ:List Nat):Prop where
 tE:σ.Nodup
 lt:∀ i∈σ,i<gs.length
 all:∀ i,i<gs.length→i∈σ
 ok:∀ i,i<gs.length→oz (gs.getD i default).op=true
 qV:∀ i o,l[i]?=some o→im L (gs.getD i default)=true∨(σ.getLast?=some i∧∀ (S:Nat→Prop),(∀ i o,l[i]?=some o→S i→∀ k∈cZ o,S k)→(∀ k∈cZ o,S k)→∀ j,j<gs.length→j≠i→S j)
 len:σ.length=gs.length
 m8:∀ i o,l[i]?=some o→∀ k∈cZ o,k<i
 qP:∀ (S:Nat→Prop),(∀ i o,l[i]?=some o→S i→∀ k∈cZ o,S k)→∀ s1 i s2 o,σ=s1++i::s2→l[i]?=some o→(∀ k∈cZ o,S k)→∀ j∈s1,¬ S j→nw hs L (gs.getD j default) (gs.getD i default)=true
theorem akk{hs:List FuncId}{L:ez}{l:List Oper}{gs:List az}{cl σ:List Nat}(hlen:gs.length=l.length)(h:tQ hs L (l.map cZ) gs cl σ=true):zO hs L l gs σ:=by
 simp only[tQ,Bool.and_eq_true,List.all_eq_true,decide_eq_true_eq,List.mem_range,List.contains_eq_mem] at h
 obtain ⟨⟨h1,h2,h3,h4,h5⟩,h6,h7⟩:=h
 have cW:∀ i o,l[i]?=some o→(∀ k∈cZ o,k<i)∧(∀ j,(cl.getD i 0).testBit j=true→j∈cZ o∨∃ k∈cZ o,(cl.getD k 0).testBit j=true):=by
  intro i o ho
  have hi:i<l.length:=(List.getElem?_eq_some_iff.1 ho).1
  have h8:=h7 i (by omega)
  have hon:(l.map cZ).getD i []=cZ o:=by simp[List.getD_eq_getElem?_getD,ho]
  rw[hon] at h8
  have hb:=Nat.eq_of_beq_eq_true h8.2
  exact ⟨h8.1,fun j hj=>uy (by rw[←hb];exact hj)⟩
 have keyS:∀ (S:Nat→Prop),(∀ i o,l[i]?=some o→S i→∀ k∈cZ o,S k)→∀ n i o,i≤n→l[i]?=some o→(∀ k∈cZ o,S k)→∀ j,(cl.getD i 0).testBit j=true→S j:=by
  intro S hS n
  induction n with
  |zero =>
   intro i o hi ho hon j hj
   obtain ⟨h8,h9⟩:=cW i o ho
   rcases h9 j hj with h | ⟨k,hk,_⟩
   ·exact hon j h
   ·have:=h8 k hk;omega
  |succ n ih =>
   intro i o hi ho hon j hj
   obtain ⟨h8,h9⟩:=cW i o ho
   rcases h9 j hj with h | ⟨k,hk,hjk⟩
   ·exact hon j h
   ·have hki:=h8 k hk
    have hkl:k<l.length:=Nat.lt_trans hki (List.getElem?_eq_some_iff.1 ho).1
    obtain ⟨ok,hok⟩:∃ ok,l[k]?=some ok:=⟨l[k],List.getElem?_eq_getElem hkl⟩
    exact ih k ok (by omega) hok (hS k ok hok (hon k hk)) j hjk
 refine ⟨xU h2,h3,h4,fun i hi=>(h5 i hi).1,fun i o ho =>?_,Nat.eq_of_beq_eq_true h1,fun i o ho=>(cW i o ho).1,?_⟩
 ·have hi:i<gs.length:=by rw[hlen];exact (List.getElem?_eq_some_iff.1 ho).1
  have h5o:=(h5 i hi).2
  rw[Bool.or_eq_true] at h5o
  rcases h5o with h | h
  ·exact .inl h
  ·rw[Bool.and_eq_true] at h
   obtain ⟨h,hla⟩:=h
   refine .inr ⟨by simpa using hla,fun S hS hon j hj hji =>?_⟩
   simp only[Jc,List.all_eq_true,List.mem_range,Bool.or_eq_true,beq_iff_eq] at h
   rcases h j hj with e | e
   ·exact absurd e hji
   ·exact keyS S hS i i o (Nat.le_refl _) ho hon j e
 intro S hS s1 i s2 o e ho hon j hj hnj
 have key:=keyS S hS
 rcases uU h6 s1 i s2 e j (.inr hj) with h | h
 ·exact absurd (key i i o (Nat.le_refl _) ho hon j h) hnj
 ·exact h
section
variable {c:cJ}
theorem Pf{K:ab→Prop}{fs:List FuncId}{L:ez}{bx:Array Oper}{gs:List az}{σ:List Nat}{Q:Exit→Act→World→Prop}(hQ:∀ B a w,K B→cj c B a w→Q .normal a w)(hgs:j4 c.P c.n bx bx.toList=some gs)(hd:zO fs L bx.toList gs σ) :
  ∀ (fuel:Nat) (listed:Array Bool) (A:ab) (a:Act) (w:World),listed.size=bx.size→(∀ i o,bx.toList[i]?=some o→listed.getD i false=true→∀ k∈cZ o,listed.getD k false=true)→(eW σ listed).length≤fuel →
   (eW σ listed=[]∨ew L A)→cd c.P fs K (ay (jz gs σ listed) A)→cj c A a w→wpAnyIn c.bl 9 c.P .any bx Q fuel listed a w:=by
 obtain ⟨hlen,hat⟩:=j5 hgs
 have onOf_mem:∀ (o:Oper) (e:Edge),e∈o.after→Region.binds .any e=true→e.on∈cZ o:=fun o e he hb=>by
  simp only[cZ,List.mem_map,List.mem_filter]
  exact ⟨e,⟨by simpa using he,hb⟩,rfl⟩
 have of_onOf:∀ (o:Oper) (k:Nat),k∈cZ o→∃ e∈o.after,Region.binds .any e=true∧e.on=k:=fun o k hk=>by
  simp only[cZ,List.mem_map,List.mem_filter] at hk
  obtain ⟨e,⟨h1,h2⟩,h3⟩:=hk
  exact ⟨e,by simpa using h1,h2,h3⟩
 have hgl:gs.length=bx.size:=by rw[hlen,Array.length_toList]
 have last:∀ (listed:Array Bool) (A:ab) (a:Act) (w:World),listed.size=bx.size→Region.ready .any bx listed=[]→cd c.P fs K (ay (jz gs σ listed) A)→cj c A a w→Q .normal a w:=by
  intro listed A a w hsz hr hwp hs
  have hnone:eW σ listed=[]:=by
   have all:∀ n,∀ i,i<n→i<bx.size→listed.getD i true=true:=by
    intro n
    induction n with
    |zero=>intro i hi;omega
    |succ n ih =>
     intro i hi his
     cases hb:listed.getD i true with
     |true=>rfl
     |false =>
      exfalso
      have ho:bx[i]?=some bx[i]:=Array.getElem?_eq_getElem his
      have:i∈Region.ready .any bx listed:=mem_ready.2 ⟨hb,bx[i],ho,fun e he hbd=>by
       have hlt:=hd.m8 i bx[i] (by simp) e.on (onOf_mem _ e he hbd)
       have h1:=ih e.on (by omega) (by omega)
       have h2:e.on<listed.size:=by omega
       simpa[Array.getD_eq_getD_getElem?,h2] using h1⟩
      rw[hr] at this
      cases this
   simp only[eW]
   refine List.filter_eq_nil_iff.2 fun i hi =>?_
   have:=all (i+1) i (by omega) (by rw[←hgl];exact hd.lt i hi)
   simp only[this,Bool.not_true,Bool.false_eq_true,not_false_eq_true]
  simp only[jz,hnone,List.map_nil,ay] at hwp
  cases hwp with
  |done hk=>exact hQ A a w hk hs
 intro fuel
 induction fuel with
 |zero =>
  intro listed A a w hsz hcl hcnt hinv hwp hs
  have hnone:eW σ listed=[]:=List.length_eq_zero_iff.1 (by omega)
  have hr:Region.ready .any bx listed=[]:=by
   refine List.eq_nil_iff_forall_not_mem.2 fun i hi =>?_
   obtain ⟨h1,o,ho,_⟩:=mem_ready.1 hi
   have:i∈eW σ listed:=by
    simp only[eW,List.mem_filter,h1,Bool.not_false,and_true]
    exact hd.all i (by rw[hgl];exact (Array.getElem?_eq_some_iff.1 ho).1)
   rw[hnone] at this
   cases this
  exact ⟨hr,last listed A a w hsz hr hwp hs⟩
 |succ fuel ih =>
  intro listed A a w hsz hcl hcnt hinv hwp hs
  refine ⟨fun hr=>last listed A a w hsz hr hwp hs,fun i hi =>?_⟩
  obtain ⟨hun,o,ho,hall⟩:=mem_ready.1 hi
  have hin:i<bx.size:=(Array.getElem?_eq_some_iff.1 ho).1
  obtain ⟨s1,s2,hσ,e1,e2⟩:=Mb hd.tE (hd.all i (by omega)) (by omega) hun
  have hinv:ew L A:=by
   rcases hinv with h | h
   ·rw[e1] at h;simp at h
   ·exact h
  have hol:bx.toList[i]?=some o:=by simpa using ho
  obtain ⟨g,hgi,hcg⟩:=hat i o hol
  have hon:∀ k∈cZ o,listed.getD k false=true:=fun k hk=>by
   obtain ⟨e,h1,h2,h3⟩:=of_onOf o k hk
   exact h3▸hall e h1 h2
  have hgd:gs.getD i default=g:=by simp[List.getD_eq_getElem?_getD,hgi]
  have hwp':cd c.P fs K (ay (g::jz gs σ (listed.setIfInBounds i true)) A):=by
   simp only[jz,e1,List.map_append,List.map_cons,hgd] at hwp
   simp only[jz,e2,List.map_append]
   refine cd.pf hinv (fun j hj =>?_) hwp
   obtain ⟨k,hk,rfl⟩:=List.mem_map.1 hj
   obtain ⟨hk1,hk2⟩:=List.mem_filter.1 hk
   have:=hd.qP (fun k=>listed.getD k false=true) hcl s1 i s2 o hσ hol hon k hk1 (by
    have hks:k<listed.size:=by
     have:=hd.lt k (by rw[hσ];exact List.mem_append_left _ hk1)
     omega
    simp[Array.getD_eq_getD_getElem?,hks] at hk2 ⊢
    exact hk2)
   rw[hgd] at this
   have hkl:=hd.lt k (by rw[hσ];exact List.mem_append_left _ hk1)
   have hks:k<bx.size:=by omega
   refine ⟨this,?_⟩
   rcases hd.qV k bx[k] (by simp) with h | h
   ·exact h
   ·exfalso
    have h9:=h.1
    rw[hσ,List.getLast?_append] at h9
    have hne:(i::s2).getLast?=some k:=by
     cases h10:(i::s2).getLast? with
     |none=>simp at h10
     |some q=>rw[h10] at h9;simpa using h9
    have hk2:k∈i::s2:=List.mem_of_getLast? hne
    have hnd:=hd.tE
    rw[hσ] at hnd
    exact (List.nodup_append.1 hnd).2.2 k hk1 k hk2 rfl
  unfold wpOpIn
  rw[ho]
  have hgm:g∈gs:=List.mem_of_getElem? hgi
  have hokg:oz g.op=true:=by
   have:=hd.ok i (by omega)
   rwa [hgd] at this
  have hcl':∀ m om,bx.toList[m]?=some om→(listed.setIfInBounds i true).getD m false=true→∀ k∈cZ om,(listed.setIfInBounds i true).getD k false=true:=by
   intro m om hom hm k hk
   by_cases hmi:m=i
   ·subst hmi
    rw[hol,Option.some.injEq] at hom
    subst hom
    exact getD_set_true (hon k hk)
   ·rw[getD_set_ne false (Ne.symm hmi)] at hm
    exact getD_set_true (hcl m om hom hm k hk)
  have hfu:(eW σ (listed.setIfInBounds i true)).length≤fuel:=by
   have:(eW σ listed).length=(eW σ (listed.setIfInBounds i true)).length+1:=by
    rw[e1,e2];simp;omega
   omega
  rcases hd.qV i o hol with hlb | ⟨hla,hlb⟩
  ·rw[hgd] at hlb
   exact w0 hcg hinv ⟨hokg,hlb⟩ hwp' hs fun B a' w' hw hiB hs'=>ih _ B a' w' (by simpa using hsz) hcl' hfu (.inr hiB) hw hs'
  ·have hnil:eW σ (listed.setIfInBounds i true)=[]:=by
    simp only[eW]
    refine List.filter_eq_nil_iff.2 fun j hj =>?_
    have hjl:=hd.lt j hj
    by_cases hji:j=i
    ·subst hji
     have:j<listed.size:=by omega
     simp[this]
    ·have h5:=hlb (fun k=>listed.getD k false=true) hcl hon j hjl hji
     have hjs:j<listed.size:=by omega
     have h6:(listed.setIfInBounds i true).getD j true=listed.getD j true:=getD_set_ne true (Ne.symm hji)
     rw[h6]
     simp[Array.getD_eq_getD_getElem?,hjs] at h5 ⊢
     exact h5
   have hin0:ew [] A:=fun s ns h=>by cases h
   exact w0 (L:=[]) hcg hin0 ⟨hokg,by simp[im,jb];cases g.dst <;>rfl⟩ hwp' hs fun B a' w' hw hiB hs'=>ih _ B a' w' (by simpa using hsz) hcl' hfu (.inl hnil) hw hs'
theorem J.akL{Q:Exit→ab→Prop}{A:ab}{on:List (List Nat)}{gs:List az}(hs:List FuncId)(L:ez)(cl σ:List Nat)(hd:tQ hs L on gs cl σ=true)(hi:ew L A)(h:∀ K:ab→Prop,(∀ B,Q .normal B→K B)→cd c.P hs K (ay (lT σ gs) A)):J c (.bS (some on) gs) Q A:=by
 intro code hc a w hs'
 cases code <;>simp only[eY] at hc <;>try (first | (cases hc;done) | ((repeat' split at hc) <;>cases hc;done))
 rename_i id bx draw
 split at hc
 ·rename_i gs' hgs
  split at hc
  case isFalse=>cases hc
  rename_i hok
  simp only[Option.some.injEq,aO.bS.injEq] at hc
  obtain ⟨he,rfl⟩:=hc
  cases draw with
  |false=>cases he
  |true =>
   simp only[cond_true,Option.some.injEq] at he
   subst he
   simp only[Bool.not_true,Bool.false_or] at hok
   have hp:=akk (j5 hgs).1 hd
   refine wpIn_region_any hok (Pf (K:=Q .normal) (fun B a w hk hs=>⟨B,hk,hs⟩) hgs hp bx.size (Array.replicate bx.size false) A a _ (by simp) ?_ ?_ (.inr hi) ?_ ?_)
   ·intro i o _ h
    exfalso
    simp only[Array.getD_eq_getD_getElem?,Array.getElem?_replicate] at h
    split at h <;>simp at h
   ·refine Nat.le_trans (List.length_filter_le _ _) ?_
    rw[hp.len,(j5 hgs).1,Array.length_toList];exact Nat.le_refl _
   ·have hall:eW σ (Array.replicate bx.size false)=σ:=by
     simp only[eW]
     refine List.filter_eq_self.2 fun i hi =>?_
     have h1:=hp.lt i hi
     rw[(j5 hgs).1,Array.length_toList] at h1
     simp[h1]
    simp only[jz,hall]
    exact h _ fun _ hb=>hb
   ·obtain ⟨D,E,hs'⟩:=hs'
    exact ⟨D,E,hs'.grow (w' := { w with drawn:=w.drawn+1 }) ⟨rfl,rfl,rfl,Nat.le_refl _,fun _ _=>rfl⟩ (fun _ _ h=>h) (fun _ _ h _=>h) (fun b o h=>hs'.c9 b o h)⟩
 ·cases hc
end
end Go.Abs
namespace Go.Abs
open Go Go.RowKit
open Enc (enc)
def xB:Option Nat→Code
 |none=>.ret
 |some id=>.exit id
def Dj:Option Nat→Exit
 |none=>.ret
 |some id=>.exit id
def qk(o:Obj)(A:ab)(os:List (Nat×ah)):Prop:=∀ n x,ai (dc o os) n=some x→A.o n=some x∧x.only (ao (dc o os))=true∧x.eO=true
def ak4(o:Obj)(In:List (Nat×ah)→Prop)(Ix:Option Nat→List (Nat×ah)→Prop):Exit→ab→Prop
 | .normal,A=>∃ os,qk o A os∧In os
 | .ret,A=>∃ os,qk o A os∧Ix none os
 | .exit id,A=>∃ os,qk o A os∧Ix (some id) os
 |_,_=>False
def OT(P:Program)(nn:Nat)(x y:aO)(ps:List Nat)(tsR:List (Nat×I))(N:Nat)(item:Nat→List I)(aj:Nat→List (Nat×ah)→Prop)(Ix:Option Nat→List (Nat×ah)→Prop):Prop :=
 ∀ k osb,k<N→aj k osb→∀ (w:World) (D:aQ) (E:aU) (l:Nat) (o1 o2:Obj),
  J ⟨P,w,D,nn,dy E,E,iC,some l⟩ x (aF (fun B=>B.o 1999999=some (.dL o1)∧J ⟨P,w,D,nn,dy E,E,iC,some l⟩ y (ak4 o2 (aj (k+1)) Ix) (B.aN 1999999 (.dL o2))) (fun _ _=>False)) (aq (p8 ps (item k) tsR) (dc o1 osb))
section
variable {c:cJ} {Q:Exit→ab→Prop}
theorem ahQ{o:Obj}{A:ab}{os:List (Nat×ah)}(h:qk o A os)(o':Obj):∀ n x,ai (dc o' os) n=some x→(A.aN 1999999 (.dL o')).o n=some x∧x.only (ao (dc o' os))=true∧x.eO=true:=fun n x hx=>by
 have e:ao (dc o' os)=ao (dc o os):=by funext m;rw[lK,lK]
 rw[e]
 by_cases hn:n=1999999
 ·subst hn
  rw[pK,if_pos rfl,Option.some.injEq] at hx
  subst hx
  exact ⟨by simp[ab.aN],rfl,rfl⟩
 ·rw[pK,if_neg hn] at hx
  obtain ⟨h1,h2⟩:=h n x (by rw[pK,if_neg hn];exact hx)
  exact ⟨by simp only[ab.aN,if_neg hn];exact h1,h2⟩
theorem J.jU{f:aL}{ps:List Nat}{x y:aO}{ts tsR:List (Nat×I)}{os0 osb0:List (Nat×ah)}{ρ:List (Nat×Nat)}{g:FuncId}{caps:List I}{N:Nat}{item:Nat→List I}
  (aj:Nat→List (Nat×ah)→Prop) (Ix:Option Nat→List (Nat×ah)→Prop) (hr:c.kj=none) (hn6:c.n≤1000000)
  (hf:ae (aq ts os0) f=.func g caps) (hcl:I.bU caps=true) (hcb:gR c.P g=true) (hit:uQ c.P g caps N item) (hlen:∀ k,(item k).length=ps.length)
  (hfree:ai os0 999999=none) (h19:ao osb0 1999999=false) (hρ:bA ρ 1999999=999999)
  (hgv:∀ o,fU ρ (dc o osb0) ((999999,.dL o)::os0)) (hts:l7 ρ (ao osb0) ts tsR)
  (hI:∀ k os,aj k os→fr osb0 os) (hIx:∀ e os,Ix e os→fr osb0 os) (h0:aj 0 osb0)
  (hround:OT c.P c.n x y ps tsR N item aj Ix)
  (hdone:∀ os,aj N os→Q .normal (aq ts (dC ρ os++os0))) (hexit:∀ e os,Ix e os→Q (Dj e) (aq ts (dC ρ os++os0))) :
  J c (.jU f ps x y) Q (aq ts os0):=by
 intro code hc a w hs
 cases code <;>simp only[eY] at hc <;>try (first | (cases hc;done) | ((repeat' split at hc) <;>cases hc;done))
 rename_i cf cps cx cy
 split at hc
 case h_2=>cases hc
 rename_i f' x' y' hcf hcx hcy
 split at hc
 case isFalse=>cases hc
 rename_i hpn
 simp only[Option.some.injEq,aO.jU.injEq] at hc
 obtain ⟨rfl,rfl,rfl,rfl⟩:=hc
 obtain ⟨D,E,hs⟩:=hs
 have hF:c.bl=Fence.wide:=by unfold cJ.bl;rw[hr]
 have hE0:c.dE 999999=none:=hs.j8 (.inr (by decide))
 have hval:∃ vs:List Value,a.eval cf=.func (.func g) #[] vs.toArray∧aI w D E caps vs:=by
  have hv:=b9 hs hcf
  rw[hf] at hv
  obtain ⟨cs,q1,q2⟩:=hv
  simp only[af] at q2
  obtain ⟨vs,q3,q4⟩:=q2
  exact ⟨vs,by simpa[bK,I.isAgg,q3] using q1.symm,q4⟩
 obtain ⟨vs,hval,hvs⟩:=hval
 rw[hF]
 refine wpIn_rangeFunc fun fn hfn =>?_
 obtain ⟨rec,hrec⟩:∃ rec:LoopState→Option Code→Loop,rec=fun bg pe => { state:=bg,pending:=pe,fn,tmps:=a.tmps,params:=cps,assign:=cx,body:=cy,defers:=w.heap.size } :=⟨_,rfl⟩
 obtain ⟨E1,hs1,hE1,hup⟩:=hs.enter hfree hE0 (o:=.loop (rec .ready none)) rfl
 obtain ⟨W1,hW1⟩:∃ W1,(w.alloc (.deferred (some []))).alloc (.loop (rec .ready none))=W1:=⟨_,rfl⟩
 rw[hW1] at hs1 hup
 obtain ⟨l,hl⟩:∃ l,l=w.heap.size+1:=⟨_,rfl⟩
 rw[←hl] at hE1
 obtain ⟨yv,hyv⟩:∃ yv:Value,yv=.func (.yield l) #[] #[]:=⟨_,rfl⟩
 obtain ⟨a1,ha1⟩:∃ a1:Act,a1 = { a with defers := { target:=.collected w.heap.size,args := #[] } :: a.defers } :=⟨_,rfl⟩
 rw[←ha1] at hs1
 refine ⟨l,[{ target:=.collected w.heap.size,args := #[] }],W1,{ target:=.fn (.func g) vs.toArray,args := #[yv] },W1,g,#[yv]++vs.toArray,W1,?_,?_,?_,?_,fun _=>by decide,?_⟩
 ·rw[←hW1,hrec,hl]
  exact run_enterLoop_outer _ _ _ _ _
 ·simp only[resolve,hval,hyv]
  simp[go_sem]
 ·intro f' _;trivial
 ·simp only[invoke,yH hcb]
 ·-- the iterator's own bargain
  have hG0:=hI 0 osb0 h0
  obtain ⟨I',hI'⟩:∃ I':Nat→List (Nat×ah)→Prop,I'=fun k os=>∃ osb,os=dc (.loop (rec .ready none)) osb∧aj k osb:=⟨_,rfl⟩
  obtain ⟨Ix',hIx'⟩:∃ Ix':List (Nat×ah)→Prop,Ix'=fun os=>∃ e osb,os=dc (.loop (rec .done (some (xB e)))) osb∧Ix e osb:=⟨_,rfl⟩
  obtain ⟨os1,hos1⟩:∃ os1,os1=dc (.loop (rec .ready none)) osb0:=⟨_,rfl⟩
  obtain ⟨Y,hY⟩:∃ Y:Value→List I→List (Nat×ah)→cN→Prop,Y=fun v args os post=>v=yv∧∃ k,args=item k∧k<N∧I' k os∧∀ r os2,(r=.bool true∧I' (k+1) os2)∨(r=.bool false∧Ix' os2)→post r os2:=⟨_,rfl⟩
  have j9:∀ k os',I' k os'→fr os1 os':=fun k os' h=>by
   rw[hI'] at h;obtain ⟨osb,rfl,h⟩:=h
   rw[hos1];exact (hI k osb h).dc _ _
  have goodx:∀ os',Ix' os'→fr os1 os':=fun os' h=>by
   rw[hIx'] at h;obtain ⟨e,osb,rfl,h⟩:=h
   rw[hos1];exact (hIx e osb h).dc _ _
  have hctr:=hit Y yv I' Ix' os1 (by rw[hyv];rfl) (fun k os' post hk h1 h2=>by rw[hY];exact ⟨rfl,k,rfl,hk,h1,h2⟩) j9 goodx (by rw[hI'];exact ⟨osb0,hos1,h0⟩)
  have hgv1:fU ρ os1 ((999999,.dL (.loop (rec .ready none)))::os0):=by rw[hos1];exact hgv _
  obtain ⟨A0,hA0⟩:∃ A0:ab,A0=aq ts ((999999,.dL (.loop (rec .ready none)))::os0):=⟨_,rfl⟩
  have hand:qo (Calls c.P g) (fun w D E=>∀ n,oZ ⟨c.P,w,D,n,dy E,E,Y,none⟩) (.raw yv::caps) os1 (fun r os'=>r=.tuple []∧(I' N os'∨Ix' os')):=fun w D E vs hy hlive hheld hv=>by
   refine (hctr.2 w D E vs hy hlive hheld hv).mono fun e w' ⟨v,he,D',E',r,os',q⟩=>⟨v,D',E',r,os',he,q⟩
  have hshare:=hs1.oL
  obtain ⟨Dh,hDh⟩:∃ Dh,Dh=oH (aq ts ((999999,.dL (.loop (rec .ready none)))::os0)) D E1:=⟨_,rfl⟩
  rw[←hDh] at hshare
  have hsh:=hshare.1
  obtain ⟨Eh,hEh⟩:∃ Eh,Eh=ar ρ os1 E1:=⟨_,rfl⟩
  have isrec:ao os1 1999999=true:=by rw[hos1,lK];simp
  have hEl:Eh 1999999=some (.op l):=by rw[hEh];simp only[ar,isrec,if_true,hρ];exact hE1
  have EhIn:∀ n e,Eh n=some e→ao os1 n=true:=fun n e h=>by
   rw[hEh] at h;simp only[ar] at h;split at h
   ·assumption
   ·cases h
  have hyok:∀ n,oZ ⟨c.P,W1,Dh,n,dy Eh,Eh,Y,none⟩:=by
   intro n v' args os' post' hYv w2 D2 E2 vs2 hsince hlive hheld hrvs
   rw[hY] at hYv
   obtain ⟨rfl,k,rfl,hkN,hIk,hpost⟩:=hYv
   have hIk0:=hIk
   rw[hI'] at hIk
   obtain ⟨osb,rfl,hIk⟩:=hIk
   have gk:=j9 k _ hIk0
   have gkb:=hI k osb hIk
   have in2:∀ m,ao os1 m=true→E2 m≠none:=fun m hm=>by
    rw[←gk.same m] at hm
    cases hx:ai (dc (.loop (rec .ready none)) osb) m with
    |none=>simp[ao,hx] at hm
    |some x=>have:=hheld.bQ m;rw[hx] at this;exact tG this
   have same2:∀ m e,Eh m=some e→e.eO=true→E2 m=some e:=fun m e he hfx=>by
    rcases hsince.dR m e he with h | ⟨e',h,hle⟩
    ·exact absurd h (in2 m (EhIn m e he))
    ·rw[hle.eq hfx] at h;exact h
   have hEl2:E2 1999999=some (.op l):=same2 _ _ hEl rfl
   have hob:=hheld.bQ 1999999
   rw[pK,if_pos rfl] at hob
   obtain ⟨b,j1,_,j3,_,_⟩:=hob
   rw[hEl2] at j1
   cases j1
   have hsz:vs2.toArray.size=cps.size:=by have:=yO hrvs;rw[hlen] at this;simpa using this
   have hyr:=run_yield (P:=c.P) (args:=vs2.toArray) j3 (by rw[hrec];exact hsz)
   rw[hrec] at hyr
   refine ⟨l,hyv,fn,_,cx,cy,hyr,roundIn_of_wpIn trivial ?_⟩
   clear hyr
   -- the round's own frame
   obtain ⟨cr,hcr⟩:∃ cr:cJ,cr=⟨c.P,w2,D2,c.n,dy E2,E2,iC,some l⟩:=⟨_,rfl⟩
   have hFr:cr.bl=Fence.wide.inRound l:=by rw[hcr];rfl
   have hlat:dN W1 Dh Eh w2 D2 E2:=by
    refine ⟨hsince.cF,hsince.fE.cell,fun m b aR he=>same2 m _ he rfl,fun m aD l he =>?_,fun m b he=>same2 m _ he rfl,fun m b he=>same2 m _ he rfl,hsince.fE.jw⟩
    rcases hsince.dR m _ he with h | ⟨e',h,hle⟩
    ·exact absurd h (in2 m (EhIn m _ he))
    ·rcases hle with rfl | ⟨_,_,blk',l',e,rfl,k1,k2⟩
     ·exact ⟨aD,l,h,Nat.le_refl _,fun _=>rfl⟩
     ·cases e;exact ⟨blk',l',h,k1,k2⟩
   have hslots:l7 ρ (ao os1) ts tsR:=by
    have:∀ tsR:List (Nat×I),l7 ρ (ao osb0) ts tsR→l7 ρ (ao os1) ts tsR:=by
     intro tsR
     induction tsR with
     |nil=>exact fun h=>h
     |cons q r ih =>
      intro h
      obtain ⟨h1,h2,h3⟩:=h
      exact ⟨h1,jf (fun n hn=>by rw[hos1,lK,hn];simp) _ h2,ih h3⟩
    exact this tsR hts
   have hsr:aS cr (aq tsR (dc (.loop (rec .ready none)) osb)) { tmps:=a.tmps,defers:=[] } w2 D2 E2:=by
    rw[hcr]
    refine ⟨hs.sz,⟨[],rfl,.nil,fun _ h=>by simp at h⟩,fun t =>?_,fK.refl _ _,fun _ _ h _=>h,hlive,fun m=>(hheld.bQ m).mD fun e b he hb=>.inr ⟨m,e,he,hb⟩,hheld.cS,fun _ e h=>.inr ⟨e,h,.refl e⟩,fun m hm =>?_,fun _ _ h=>h,(fun _ _ _ _ h=>h.elim),.refl _ _⟩
    ·rcases MF hslots t with h | ⟨h1,h2⟩
     ·simp only[aq];rw[h];simp[aT]
     ·have h3:=hsh.dZ t
      rw[ha1] at h3
      simp only[aq] at h3 ⊢
      rw[h1] at h3
      have h4:=(aT.aM (w:=W1) (D:=Dh) (p:=ao os1) (ρ:=bA ρ) (E:=Eh) (E':=E1) (fun n hn=>by rw[hEh];simp only[ar,hn,if_true]) h2).1 h3
      exact aT.bJ hlat h4
    ·have hmi:ao os1 m=true:=by
      rw[←gk.same m]
      have:=hheld.bQ m
      cases hx:ai (dc (.loop (rec .ready none)) osb) m with
      |none=>rw[hx] at this;exact absurd this hm
      |some x=>simp[ao,hx]
     have:=gk.og m hmi
     exact ⟨Nat.le_trans hn6 this,this⟩
   have hsp:=aS.Ka cps.toList vs2 (item k) tsR _ hsr (fun p hp=>by rw[hcr];have:=List.all_eq_true.1 hpn p hp;simpa using this) hrvs (by have:=hsz;simpa using this.symm)
   have htm:(cps.zip vs2.toArray).foldl (fun t (q:Tmp×Value)=>t.setIfInBounds q.1 q.2) a.tmps=(cps.toList.zip vs2).foldl (fun t q=>t.setIfInBounds q.1 q.2) a.tmps:=by
    rw[←Array.foldl_toList];simp
   have hx:=hround k osb hkN hIk w2 D2 E2 l (.loop (rec .ready none)) (.loop { rec .ready none with state:=.busy })
   rw[←hcr] at hx
   have hx1:=hx cx (by rw[hcr];exact hcx) _ w2 ⟨D2,E2,hsp⟩
   rw[hFr] at hx1
   simp only[←htm] at hx1
   rw[hcr] at hx1
   refine wpIn_mono hx1 ?_
   rintro e ax wx ⟨B,hq,hsx⟩
   rw[←hcr] at hq hsx
   cases e <;>simp only[aF] at hq <;>try exact hq.elim
   simp only[Exit.then]
   obtain ⟨hB1,hB2⟩:=hq
   obtain ⟨Dx,Ex,hsx⟩:=hsx
   have hElx:Ex 1999999=some (.op l):=by
    have ho:=hsx.bQ 1999999
    rw[hB1] at ho
    rcases hsx.DC (n:=1999999) (by rw[hcr];exact hEl2) rfl with h | h
    ·exact absurd h (tG ho)
    ·exact h
   have hLx:wx.heap[l]?=some (.loop (rec .ready none)):=by
    have ho:=hsx.bQ 1999999
    rw[hB1] at ho
    obtain ⟨b,k1,_,k3,_⟩:=ho
    rw[hElx] at k1;cases k1;exact k3
   refine ⟨_,run_beginRound hLx (by rw[hrec]),?_⟩
   have hsb:=hsx.yR (o':=.loop { rec .ready none with state:=.busy }) hB1 hElx rfl
   have hy1:=hB2 cy (by rw[hcr];exact hcy) _ _ ⟨Dx,Ex,hsb⟩
   rw[hFr] at hy1
   rw[hcr] at hy1
   refine wpIn_mono hy1 ?_
   rintro e a3 w3 ⟨A3,hq3,D3,E3,hs3⟩
   rw[←hcr] at hs3
   -- the end of the round
   have bd:∀ (os:List (Nat×ah)) (jump:Option Code),qk (.loop { rec .ready none with state:=.busy }) A3 os→(post' (.bool jump.isNone) (dc (.loop (rec (if jump.isNone then .ready else .done) jump)) os)) →
     ∃ v w',(Instr.endRound l jump).run c.P w3=.ok v w'∧(fun e w'=>∃ v D' E' r os',e=Ending.returned v∧post' r os'∧aT w' D' E' r v∧lg (fun b=>w2.heap.size≤b∨dy E2 b) w' D' E' (ai os') ∧
      fK (fun b=>w2.heap.size≤b∨dy E2 b) w2 w'∧(∀ b o,D2 b o→D' b o)∧(∀ b o,D' b o→b<w'.heap.size)∧(∀ b o,D' b o→b<w2.heap.size→¬ dy E2 b→D2 b o) ∧
      (∀ n e,E2 n=some e→ao os' n=true→∃ e',E' n=some e'∧e.le e')∧iv w2 D2 w') (.returned v) w':=fun os jump hbk hp=>by
    have hA3:A3.o 1999999=some (.dL (.loop { rec .ready none with state:=.busy })):=(hbk 1999999 _ (by rw[pK,if_pos rfl])).1
    have hEl3:E3 1999999=some (.op l):=by
     have ho:=hs3.bQ 1999999
     rw[hA3] at ho
     rcases hs3.DC (n:=1999999) (by rw[hcr];exact hEl2) rfl with h | h
     ·exact absurd h (tG ho)
     ·exact h
    have hL3:w3.heap[l]?=some (.loop { rec .ready none with state:=.busy }):=by
     have ho:=hs3.bQ 1999999
     rw[hA3] at ho
     obtain ⟨b,k1,_,k3,_⟩:=ho
     rw[hEl3] at k1;cases k1;exact k3
    have hend:=run_endRound (P:=c.P) jump hL3
    have erec:({ rec .ready none with state:=if jump.isNone then LoopState.ready else .done,pending:=jump } : Loop)=rec (if jump.isNone then .ready else .done) jump:=by rw[hrec]
    have hend':(Instr.endRound l jump).run c.P w3=.ok (.bool jump.isNone) (w3.putObj l (.loop (rec (if jump.isNone then .ready else .done) jump))):=by
     rw[hend];rw[hrec]
    have hs4:=hs3.yR (o':=.loop (rec (if jump.isNone then .ready else .done) jump)) hA3 hEl3 rfl
    rw[hcr] at hs4
    obtain ⟨D',E',_,_,_,q1,q2,q3,q4,q5,q6⟩:=hs4.Jg (ahQ hbk _)
    exact ⟨_,_,hend',_,D',E',.bool jump.isNone,_,rfl,hp,⟨[.bool jump.isNone],by simp[bK,I.isAgg],by simp[af]⟩,q1,q2,q3,q4,q5,q6⟩
   cases e with
   |normal =>
    obtain ⟨os,hbk,hin⟩:=hq3
    exact bd os none hbk (hpost _ _ (.inl ⟨rfl,by rw[hI'];exact ⟨os,rfl,hin⟩⟩))
   |ret =>
    obtain ⟨os,hbk,hin⟩:=hq3
    exact bd os (some .ret) hbk (hpost _ _ (.inr ⟨rfl,by rw[hIx'];exact ⟨none,os,rfl,hin⟩⟩))
   |exit id =>
    obtain ⟨os,hbk,hin⟩:=hq3
    exact bd os (some (.exit id)) hbk (hpost _ _ (.inr ⟨rfl,by rw[hIx'];exact ⟨some id,os,rfl,hin⟩⟩))
   |goto t=>exact hq3.elim
   |panic ch=>exact hq3.elim
   |outgrown=>exact hq3.elim
  -- the call
  have hargs:fP (aT W1 D E1) (.raw yv::caps) (yv::vs):=by
   exact .cons ⟨[yv],by simp[bK,I.isAgg],by rw[hyv];exact ⟨rfl,rfl⟩⟩ (yL (hup caps vs hvs))
  have hus:=hand.use (ρ:=ρ) hs1 false (fun h=>h.mono) ⟨(fun h=>by cases h),fun _=>by rw[←hDh,←hEh];exact hyok⟩ hgv1 (u6 _ (by simp[I.bU,I.br,hcl]))
   (fun r os' hp=>by
    have gg:fr os1 os':=by
     rcases hp.2 with h | h
     ·exact j9 _ _ h
     ·exact goodx _ h
    refine ⟨fun m x hx=>⟨(gg.ok m x hx).1,(gg.ok m x hx).2,fun h=>by cases h⟩,fun m m' h1 h2=>hgv1.inj m m' (by rw[←gg.same];exact h1) (by rw[←gg.same];exact h2),fun m hm=>by rw[gg.same];exact hm,fun m h1 h2=>(by rw[gg.same,h2] at h1;cases h1),(by rw[hp.1];simp[I.only,I.bP]),fun h=>by cases h⟩) hargs
  have ecl : #[yv]++vs.toArray=(yv::vs).toArray:=by simp
  rw[ecl]
  refine CallsIn.mono (callsIn_wide.2 hus) ?_
  rintro e w3 ⟨v,r,os',D2,E2,rfl,hp,hs2,_,hE2⟩
  have key:∀ (o3:Obj) (osb:List (Nat×ah)),os'=dc o3 osb→pH o3=true→E2 999999=some (.op l)∧w3.heap[l]?=some o3∧∀ o4,pH o4=true→cj c (aq ts (dC ρ osb++os0)) a1 (w3.putObj l o4):=fun o3 osb he h3=>by
   subst he
   have hn2:E2 999999=some (.op l):=by
    obtain ⟨e',h1,h2⟩:=hE2 1999999 (.op l) (by rw[←hEh];exact hEl) (by rw[lK];simp)
    rw[hρ] at h1
    rw[h1,h2.eq rfl]
   have eos:dC ρ (dc o3 osb)=(999999,.dL o3)::dC ρ osb:=by simp only[dc,dC,List.map_cons,hρ,ah.aM]
   rw[eos] at hs2
   have ha:(aq ts ((999999,ah.dL o3)::dC ρ osb++(999999,.dL (.loop (rec .ready none)))::os0)).o 999999=some (.dL o3):=by simp[aq,ai]
   have hgb:∀ m,ao osb m=true→bA ρ m≠999999:=fun m hm e=>by
    have h5:ao (dc o3 osb) m=true:=by rw[lK,hm];simp
    have g5:fr os1 (dc o3 osb):=by
     rcases hp.2 with h | h
     ·exact j9 _ _ h
     ·exact goodx _ h
    have h6:=hgv1.inj m 1999999 (by rw[←g5.same];exact h5) isrec (by rw[hρ];exact e)
    subst h6
    have h7:fr osb0 osb:=by
     rcases hp.2 with h | h
     ·rw[hI'] at h;obtain ⟨osb',h8,h9⟩:=h
      simp only[dc,List.cons.injEq] at h8
      rw[h8.2];exact hI _ _ h9
     ·rw[hIx'] at h;obtain ⟨e,osb',h8,h9⟩:=h
      simp only[dc,List.cons.injEq] at h8
      rw[h8.2];exact hIx _ _ h9
    rw[h7.same,h19] at hm;cases hm
   refine ⟨hn2,?_,fun o4 h4 =>?_⟩
   ·have ho:=hs2.bQ 999999
    rw[ha] at ho
    obtain ⟨b,k1,_,k3,_⟩:=ho
    rw[hn2] at k1;cases k1;exact k3
   ·have h5:=(hs2.yR (o':=o4) ha hn2 h4).Xi hn2
    have hst:(⟨((aq ts ((999999,ah.dL o3)::dC ρ osb++(999999,.dL (.loop (rec .ready none)))::os0)).aN 999999 (.dL o4)).t,fun m=>if m=999999 then none else
      ((aq ts ((999999,ah.dL o3)::dC ρ osb++(999999,.dL (.loop (rec .ready none)))::os0)).aN 999999 (.dL o4)).o m⟩:ab)=aq ts (dC ρ osb++os0):=by
     simp only[aq,ab.aN]
     congr 1
     funext m
     by_cases hm:m=999999
     ·subst hm
      simp only[if_true,q0]
      cases hq:pre ρ osb 999999 with
      |none=>exact hfree.symm
      |some k=>exact absurd (lV hq).2 (hgb k (lV hq).1)
     ·simp only[if_neg hm,List.cons_append,ai,q0]
    rw[hst] at h5
    exact ⟨D2,_,h5⟩
  rcases hp.2 with h | h
  ·rw[hI'] at h
   obtain ⟨osb,he,hin⟩:=h
   obtain ⟨k1,k2,k3⟩:=key _ osb he rfl
   refine ⟨none,_,(by have:=run_endLoop (P:=c.P) k2 (by rw[hrec];simp);rw[hrec] at this;exact this),_,hdone osb hin,?_⟩
   have:=k3 (.loop { rec .ready none with state:=.exhausted }) rfl
   rw[ha1] at this
   rw[hrec] at this
   exact this
  ·rw[hIx'] at h
   obtain ⟨e,osb,he,hin⟩:=h
   obtain ⟨k1,k2,k3⟩:=key _ osb he rfl
   refine ⟨some (xB e),_,(by have:=run_endLoop (P:=c.P) k2 (by rw[hrec];simp);rw[hrec] at this;exact this),?_⟩
   have:=k3 (.loop { rec .done (some (xB e)) with state:=.exhausted }) rfl
   rw[ha1] at this
   rw[hrec] at this
   have hq:Jk c Q (Dj e) { a with defers := { target:=.collected w.heap.size,args := #[] } :: a.defers } _:=⟨_,hexit e osb hin,this⟩
   cases e with
   |none=>exact wpIn_ret hq
   |some id=>exact wpIn_exit hq
end
mutual
theorem lW{ρ:Nat→Nat}(h:∀ n,ρ n=n):∀ x:I,x.aM ρ=x
 | .agg fs | .tuple fs=>by simp only[I.aM];rw[mM h fs]
 | .slice _ es=>by simp only[I.aM];rw[mM h es]
 | .ref x=>by simp only[I.aM];rw[lW h x]
 | .func _ caps=>by simp only[I.aM];rw[mM h caps]
 | .iface _ v=>by simp only[I.aM];rw[lW h v]
 | .ptr _ _ | .own _ _ | .view _ _ _ _ _ | .mref _ | .dx _=>by simp only[I.aM,h]
 | .cU ks vs=>by simp only[I.aM];rw[mM h ks,mM h vs]
 | .bool _ | .int _ _ | .cV _ | .nilp | .de | .dS | .raw _ | .nils _ | .c0 _ | .undef | .c7=>by simp only[I.aM]
theorem mM{ρ:Nat→Nat}(h:∀ n,ρ n=n):∀ xs:List I,I.cR ρ xs=xs
 | []=>rfl
 |x::xs=>by simp only[I.cR];rw[lW h x,mM h xs]
end
theorem ah.lW{ρ:Nat→Nat}(h:∀ n,ρ n=n):∀ x:ah,x.aM ρ=x
 | .box x=>by simp only[ah.aM,Abs.lW h]
 | .bT _ _ es=>by simp only[ah.aM,mM h]
 | .dL _=>rfl
 | .cM _ _=>rfl
 | .ct _ _=>by simp only[ah.aM,mM h]
 | .it _ _ _ _=>by simp only[ah.aM,mM h]
theorem ub(os:List (Nat×ah)):dC [] os=os:=by
 simp only[dC]
 have:(fun q:Nat×ah=>(bA [] q.1,q.2.aM (bA [])))=id:=by
  funext q
  rw[ah.lW (ρ:=bA []) (fun n=>rfl)];rfl
 rw[this,List.map_id]
theorem kc(a b:List (Nat×ah))(n:Nat):ai (a++b) n=match ai a n with
  |some x=>some x
  |none=>ai b n:=by
 induction a with
 |nil=>rfl
 |cons q a ih =>
  obtain ⟨k,v⟩:=q
  simp only[List.cons_append,ai]
  split
  ·rfl
  ·exact ih
theorem fr.none{os os':List (Nat×ah)}(h:fr os os'){n:Nat}(hn:n<1000000):ai os' n=none:=by
 cases hx:ai os' n with
 |none=>rfl
 |some x =>
  have h1:ao os' n=true:=by simp[ao,hx]
  rw[h.same] at h1
  exact absurd (h.og n h1) (by omega)
theorem aC.cD{ts ts':List (Nat×I)}{os os':List (Nat×ah)}(h1:aX ts ts')(h2:∀ n,ai os n=ai os' n):aC (aq ts os) (aq ts' os'):=by
 have e:aq ts os=aq ts os':=by
  simp only[aq];congr 1;funext n;exact h2 n
 rw[e]
 rintro c a w ⟨D,E,hs⟩
 refine ⟨D,E,hs.sz,hs.eQ,fun t =>?_,hs.dO,hs.c5,hs.c9,hs.bQ,hs.cS,hs.dR,hs.eV,hs.cF,hs.eX,hs.fE⟩
 rcases y5 h1 t with h | h
 ·simp only[aq];rw[h];simp[aT]
 ·have:=hs.dZ t
  simp only[aq] at *
  rw[h];exact this
theorem Ae{os osk os2 ow:List (Nat×ah)}{ts:List (Nat×I)}(h1:fr os osk)(h2:fr os os2)(how:∀ m,ao ow m=true→m<1000000):aq ts (dC [] os2++(ow++osk))=aq ts (ow++os2):=by
 simp only[aq,ub]
 congr 1
 funext n
 simp only[kc]
 cases hw:ai ow n with
 |none =>
  simp only
  cases h3:ai os2 n with
  |some x=>rfl
  |none =>
   simp only
   cases h4:ai osk n with
   |none=>rfl
   |some x =>
    have h5:ao osk n=true:=by simp[ao,h4]
    rw[h1.same,←h2.same] at h5
    simp[ao,h3] at h5
 |some x =>
  simp only
  rw[h2.none (how n (by simp[ao,hw]))]
theorem fU.j9{os osk ow:List (Nat×ah)}(h1:fr os osk)(how:∀ m,ao ow m=true→m<1000000):fU [] osk (ow++osk):=by
 refine ⟨fun m x hx =>?_,fun m m' _ _ h=>h⟩
 have hm:ao osk m=true:=by simp[ao,hx]
 have hg:=h1.og m (by rw[←h1.same];exact hm)
 obtain ⟨k1,k2⟩:=h1.ok m x hx
 refine ⟨?_,k1,k2⟩
 rw[ah.lW (ρ:=bA []) (fun n=>rfl)]
 simp only[bA,kc]
 cases hw:ai ow m with
 |none=>exact hx
 |some y=>have:=how m (by simp[ao,hw]);omega
theorem ev.j9{os osk os2 os0:List (Nat×ah)}{r:I}(h1:fr os osk)(h2:fr os os2)(hr:r.br=true):ev false [] osk os0 r os2:=by
 refine ⟨fun m x hx=>⟨(h2.ok m x hx).1,(h2.ok m x hx).2,fun h=>by cases h⟩,fun m m' _ _ h=>h,fun m hm=>by rw[h2.same,←h1.same];exact hm,fun m h3 h4 =>?_,jR _ r hr,fun h=>by cases h⟩
 rw[h2.same,←h1.same,h4] at h3;cases h3
theorem bj.Nh{P:Program}{Y:Value→List I→List (Nat×ah)→cN→Prop}{K:ab→Prop}{v:Value}{vs:List I}{dst:Option Nat}{rest:List az}{ts:List (Nat×I)}{os osk ow:List (Nat×ah)}{In Ix:List (Nat×ah)→Prop}
  (hY:Y v vs osk (fun r os2=>(r=.bool true∧In os2)∨(r=.bool false∧Ix os2))) (hk:fr os osk) (hi:∀ os',In os'→fr os os') (hx:∀ os',Ix os'→fr os os') (hcl:I.bU vs=true) (how:∀ m,ao ow m=true→m<1000000)
  (h1:∀ os2,In os2→bj P Y false K (ay rest ((aq ts (ow++os2)).aP dst (.bool true)))) (h2:∀ os2,Ix os2→bj P Y false K (ay rest ((aq ts (ow++os2)).aP dst (.bool false)))) :
  bj P Y false K (.pj v vs dst rest (aq ts (ow++osk))):=by
 refine .zg osk vs _ rfl hY (fU.j9 hk how) (u6 vs hcl) ?_ ?_
 ·rintro r os' (⟨rfl,h⟩ | ⟨rfl,h⟩)
  ·exact ev.j9 hk (hi _ h) rfl
  ·exact ev.j9 hk (hx _ h) rfl
 ·rintro r os' (⟨rfl,h⟩ | ⟨rfl,h⟩)
  ·rw[Ae hk (hi _ h) how];exact h1 os' h
  ·rw[Ae hk (hx _ h) how];exact h2 os' h
theorem Cv(A:ab)(d:Option Nat)(args:List I)(rest:List az)(v:Value):su A d args rest (.raw v)=.pj v args d rest A:=rfl
def kA(w:World):aQ:=fun b _=>b<w.heap.size
structure iM (P:Program) (t:TypeId) (α:Type) [Enc α]:Prop where
 cells:P.cellsOf t=Enc.sz α
 J6:0<Enc.sz α
 pW:∀ {H:Type} {enc0:TypeId×Value→H} {w:World} {fuel:Nat} {cs:List Value} {x:DataW H×List MemPlace},DataW.trod enc0 P w 0 (fun _=>true) true fuel t cs=some x→∃ a:α,af w (kA w) dE (enc a) cs
theorem aj8{P:Program}{t:TypeId}(ht:P.underlying t=some (.int .i64))(hc:P.cellsOf t=1):iM P t Int :=
 ⟨hc,by decide,fun h=>by
  obtain ⟨n,rfl,_,hw⟩:=DataW.trod_int ht h
  refine ⟨n,?_⟩
  rw[ij,af]
  simp only[Lit.wf,Bool.and_eq_true,decide_eq_true_eq] at hw
  exact ⟨rfl,hw.1,hw.2⟩⟩
theorem CH{α:Type}[Enc α]{w:World}{D:aQ}(c:Nat):∀ (n:Nat) (cs:List Value),cs.length=n*c→(∀ i,i<n→∃ a:α,af w D dE (enc a) ((cs.drop (i*c)).take c))→∃ l:List α,l.length=n∧aJ w D dE (l.map enc) cs
 |0,cs,hl,_=>⟨[],rfl,by simp only[Nat.zero_mul,List.length_eq_zero_iff] at hl;subst hl;simp[aJ]⟩
 |n+1,cs,hl,h=>by
  obtain ⟨a,ha⟩:=h 0 (by omega)
  simp only[Nat.zero_mul,List.drop_zero] at ha
  obtain ⟨l,h1,h2⟩:=CH c n (cs.drop c) (by rw[List.length_drop,hl,Nat.succ_mul];omega) (fun i hi=>by
   obtain ⟨b,hb⟩:=h (i+1) (by omega)
   refine ⟨b,?_⟩
   rw[List.drop_drop]
   rwa [Nat.succ_mul,Nat.add_comm] at hb)
  refine ⟨a::l,by simp[h1],?_⟩
  simp only[List.map_cons,aJ]
  exact ⟨cs.take c,cs.drop c,(List.take_append_drop c cs).symm,ha,h2⟩
theorem al1{H:Type}{enc0:TypeId×Value→H}{P:Program}{w:World}{base:Nat}{spare:Nat→Bool}{held:Bool}{fuel n:Nat}{t e:TypeId}{cs:List Value}{x:DataW H×List MemPlace}(ht:P.underlying t=some (.array n e))(h:DataW.trod enc0 P w base spare held fuel t cs=some x) :
  ∃ (xs:List (DataW H×List MemPlace)) (m:Nat),cs.length=P.cellsOf t∧xs.length=n∧∀ (i:Nat),i<n→DataW.trod enc0 P w base spare held m e ((cs.drop (i*P.cellsOf e)).take (P.cellsOf e))=xs[i]?:=by
 cases fuel with
 |zero=>simp[DataW.trod] at h
 |succ m =>
  unfold DataW.trod at h
  rw[ht] at h
  split at h <;>simp_all
  obtain ⟨hl,xs,hp,hd⟩:=h
  exact ⟨xs,by simpa using mapM_some_length hp,m,fun i hi=>mapM_some_get hp i i (by simp[hi])⟩
theorem aj7{P:Program}{t e:TypeId}{n:Nat}{α:Type}[Enc α](ht:P.underlying t=some (.array n e))(he:iM P e α)(hc:P.cellsOf t=n*Enc.sz α)(hn:0<n):iM P t (bI n α) :=
 ⟨hc,Nat.mul_pos hn he.J6,fun {H enc0 w fuel cs x} h=>by
  obtain ⟨xs,m,hl,hx,hp⟩:=al1 ht h
  obtain ⟨l,h1,h2⟩:=CH (α:=α) (w:=w) (D:=kA w) (Enc.sz α) n cs (by rw[hl,hc]) (fun i hi=>by
   have h3:=hp i hi
   rw[he.cells,List.getElem?_eq_getElem (by omega)] at h3
   exact he.pW h3)
  refine ⟨⟨l,h1⟩,?_⟩
  show af w (kA w) dE (.agg (l.map enc)) cs
  simp only[af]
  exact h2⟩
theorem O5(a:Addr)(i j:Nat):(a.add i).add j=a.add (i+j):=by
 unfold Addr.add
 by_cases hi:i=0 <;>by_cases hj:j=0 <;>simp[hi,hj,Nat.add_assoc]
theorem aj9{P:Program}{t e:TypeId}{α:Type}[Enc α](ht:P.underlying t=some (.slice e))(he:iM P e α)(hc:P.cellsOf t=1):iM P t (List α) :=
 ⟨hc,by rw[qD];exact Nat.one_pos,fun {H enc0 w fuel cs x} h=>by
  rcases DataW.trod_slice ht h with ⟨rfl,_⟩ | ⟨a,len,cap,elems,rest,n,_,rfl,_,hb,hl,hm,hlen,hel,_⟩
  ·refine ⟨[],?_⟩
   simp only[fW,List.map_nil]
   rw[af]
   exact ⟨none,0,rfl,Nat.le_refl _,by decide,.inl rfl,by simp⟩
  ·have key:∀ k,k≤len→∃ (l:List α) (cs':List Value),l.length=k∧aJ w (kA w) dE (l.map enc) cs'∧cs'.length=k*Enc.sz α∧∀ j v,cs'[j]?=some v→w.cell? (a.add j)=some v:=by
    intro k
    induction k with
    |zero=>exact fun _=>⟨[],[],rfl,by simp[aJ],by simp,by simp⟩
    |succ k ih =>
     intro hk
     obtain ⟨l,cs',h1,h2,h3,h4⟩:=ih (by omega)
     have h5:=hel k (by omega)
     have h6:k<elems.length:=by omega
     rw[List.getElem?_eq_getElem h6] at h5
     obtain ⟨ce,h7,h8⟩:=Option.bind_eq_some_iff.1 h5
     obtain ⟨y,hy⟩:=he.pW h8
     rw[he.cells] at h7
     obtain ⟨_,h9,h10⟩:=World.cells?_some h7
     refine ⟨l++[y],cs'++ce,by simp[h1],?_,by rw[List.length_append,h3,h9,Nat.succ_mul],fun j v hj =>?_⟩
     ·rw[List.map_append]
      refine ki _ _ _ _ h2 ?_
      simp only[List.map_cons,List.map_nil,aJ]
      exact ⟨ce,[],by simp,hy,rfl⟩
     ·rcases Nat.lt_or_ge j cs'.length with hlt | hge
      ·rw[List.getElem?_append_left hlt] at hj
       exact h4 j v hj
      ·rw[List.getElem?_append_right hge] at hj
       have hlt:j-cs'.length<Enc.sz α:=by
        have:=(List.getElem?_eq_some_iff.1 hj).1
        omega
       have:=h10 (j-cs'.length) hlt
       rw[O5,←h3,Nat.add_sub_cancel' hge] at this
       rw[this];exact hj
   obtain ⟨l,cs',h1,h2,h3,h4⟩:=key len (Nat.le_refl _)
   refine ⟨l,?_⟩
   simp only[fW,af,List.length_map]
   refine ⟨some a,cap,by rw[h1],by omega,hm,?_,Pc l⟩
   by_cases hz:len=0
   ·left;have:l=[]:=List.length_eq_zero_iff.1 (by omega);rw[this];rfl
   right
   have hpos:0<cs'.length:=by rw[h3];exact Nat.mul_pos (Nat.pos_of_ne_zero hz) he.J6
   have h0:=h4 0 cs'[0] (List.getElem?_eq_getElem hpos)
   have hsp:a.spot=none:=by
    simp only[Addr.add,if_true] at h0
    unfold World.cell? at h0
    split at h0
    ·split at h0
     ·cases h0
     ·rename_i hs;cases hh:a.spot <;>simp_all
    ·cases h0
   have ha:∀ j,a.add j=⟨a.block,a.off+j,none⟩:=fun j=>by
    unfold Addr.add
    split
    ·rename_i hj;subst hj;cases a;simp_all
    ·rfl
   refine ⟨a.block,a.off,cs',by cases a;simp_all,fun j v hj =>?_,h2⟩
   have h5:=h4 j v hj
   rw[ha] at h5
   refine ⟨h5,?_⟩
   show (⟨a.block,a.off+j,none⟩:Addr).block<_
   exact World.block_lt_of_cell? w _ h5⟩
end Go.Abs
namespace Go.Abs
open Go Go.RowKit Go.ChangeShapes
open Enc (enc)
def qS(P:Program)(t:TypeId)(l:List (TypeId×Nat)):Bool:=match P.underlying t with
 |some (.struct fs)=>fs.toList.map (fun f=>(f.type,f.offset))==l
 |_=>false
def I2(P:Program)(t:TypeId)(n:Nat)(e:TypeId):Bool:=match P.underlying t with
 |some (.array n' e')=>n'==n&&e'==e
 |_=>false
theorem ah1{P:Program}{t:TypeId}{n:Nat}{e:TypeId}(h:I2 P t n e=true):P.underlying t=some (.array n e):=by
 unfold I2 at h
 split at h
 ·rename_i n' e' ht
  simp only[Bool.and_eq_true,beq_iff_eq] at h
  rw[ht,h.1,h.2]
 ·cases h
theorem ah6{P:Program}{t:TypeId}{l:List (TypeId×Nat)}(h:qS P t l=true):∃ fs,P.underlying t=some (.struct fs)∧fs.toList.map (fun f=>(f.type,f.offset))=l:=by
 unfold qS at h
 split at h
 ·rename_i fs ht
  exact ⟨fs,ht,by simpa using h⟩
 ·cases h
theorem MV{H:Type}{enc0:TypeId×Value→H}{P:Program}{w:World}{fuel:Nat}{t:TypeId}{l:List (TypeId×Nat)}{cs:List Value}{x:DataW H×List MemPlace}(ht:qS P t l=true)(h:DataW.trod enc0 P w 0 (fun _=>true) true fuel t cs=some x) :
  cs.length=P.cellsOf t∧∃ m:Nat,∀ (i:Nat) (u:TypeId) (o:Nat),l[i]?=some (u,o)→∃ y,DataW.trod enc0 P w 0 (fun _=>true) true m u ((cs.drop o).take (P.cellsOf u))=some y:=by
 obtain ⟨fs,h1,h2⟩:=ah6 ht
 obtain ⟨xs,m,_,_,h3,h4,h5⟩:=DataW.trod_struct h1 h
 refine ⟨h3,m,fun i u o hi =>?_⟩
 rw[←h2] at hi
 simp only[List.getElem?_map,Option.map_eq_some_iff,Prod.mk.injEq] at hi
 obtain ⟨f,hf,rfl,rfl⟩:=hi
 have hf':fs[i]?=some f:=by simpa using hf
 have h6:=h5 i f hf'
 have hlt:i<fs.size:=(Array.getElem?_eq_some_iff.1 hf').1
 rw[List.getElem?_eq_getElem (by omega)] at h6
 exact ⟨_,h6⟩
section
variable {P:Program} {t:TypeId} {α β γ:Type} [Enc α] [Enc β] [Enc γ] {H:Type} {enc0:TypeId×Value→H} {w:World} {fuel:Nat} {cs:List Value} {x:DataW H×List MemPlace}
theorem akb{u0 u1:TypeId}(ht:qS P t [(u0,0),(u1,Enc.sz α)]=true)(h0:iM P u0 α)(h1:iM P u1 β)(hc:P.cellsOf t=Enc.sz α+Enc.sz β)(h:DataW.trod enc0 P w 0 (fun _=>true) true fuel t cs=some x) :
  ∃ (a:α) (b:β),af w (kA w) dE (.agg [enc a,enc b]) cs:=by
 obtain ⟨hl,m,hf⟩:=MV ht h
 obtain ⟨y0,k0⟩:=hf 0 u0 0 rfl
 obtain ⟨y1,k1⟩:=hf 1 u1 (Enc.sz α) rfl
 obtain ⟨a,ha⟩:=h0.pW k0
 obtain ⟨b,hb⟩:=h1.pW k1
 rw[h0.cells,List.drop_zero] at ha
 rw[h1.cells,List.take_of_length_le (by rw[List.length_drop];omega)] at hb
 refine ⟨a,b,?_⟩
 simp only[af,aJ]
 exact ⟨_,_,(List.take_append_drop (Enc.sz α) cs).symm,ha,cs.drop (Enc.sz α),[],by simp,hb,rfl⟩
theorem yd{base:Nat}{v:Value}{d:DataW H}{p:List MemPlace}(ho:iM P t α)(hA:Enc.ga α=false)(hst:(match P.underlying t with | some (.slice _) | some (.int _) | some .bool=>true | _=>false)=true)(hv:Value.okWide P w .any base t v)
  (h:DataW.Trod enc0 P w 0 (fun _=>true) true t v d p):∃ (a:α) (cs:List Value),bK (enc a) v cs∧af w (kA w) dE (enc a) cs:=by
 obtain ⟨fuel,h⟩:=h
 have hone:v.cells.toList=[v]:=by
  unfold Value.okWide at hv
  split at hst
  ·rename_i e ht;rw[ht] at hv;simp only[Cell.okWide,ht] at hv;cases v <;>simp_all[Cell.ok,Value.cells]
  ·rename_i e ht;rw[ht] at hv;simp only[Cell.okWide,ht] at hv;cases v <;>simp_all[Cell.ok,Value.cells]
  ·rename_i ht;rw[ht] at hv;simp only[Cell.okWide,ht] at hv;cases v <;>simp_all[Cell.ok,Value.cells]
  ·cases hst
 rw[hone] at h
 obtain ⟨a,ha⟩:=ho.pW h
 exact ⟨a,[v],by simp[bK,Enc.agg,hA],ha⟩
end
theorem aks{H:Type}{enc0:TypeId×Value→H}{P:Program}{f:Func}{s:ChangeSpec}{apart j8 handsOn again:Bool}{W W':World}{args:Array Value}{v:Value}{ds gs:List (DataW H)}{before pa pv:List MemPlace}
  (hW:DataW.Whole enc0 P f.params.toList s.vars apart W args.toList ds gs before)
  (hres:∀ (b:Nat) (sp:Nat→Bool) (hd:Bool),DataW.TrodAll enc0 P W' b sp hd f.resultTypes.toList (v.resultList f.resultTypes.size) (s.fn H (ds++gs)).results [])
  (hargs:∀ sp:Nat→Bool,(∀ p∈before,sp p.block=true)→DataW.TrodAll enc0 P W' 0 sp true f.params.toList args.toList (s.fn H (ds++gs)).args pa)
  (hvars:∀ sp:Nat→Bool,(∀ p∈before,sp p.block=true)→DataW.TrodVars enc0 P W' sp s.vars (s.fn H (ds++gs)).vars pv)
  (hps:before=pa++pv) (hb:Below W.heap.size W W')
  (hok:∀ (j:Nat) (t:TypeId) (r:Value),f.resultTypes[j]?=some t→(v.resultList f.resultTypes.size)[j]?=some r→Value.okWide P W' .any 0 t r) :
  s.post enc0 P f apart j8 handsOn again W args v W':=by
 have hlt:∀ p∈before,p.block<W.heap.size:=fun p hp=>by simpa using hW.lt p hp
 have hold:∀ p∈before,(fun b=>decide (b<W.heap.size)) p.block=true:=fun p hp=>by simpa using hlt p hp
 refine ⟨ds,gs,before,[],pa,pv,hW,hres _ _ _,hargs _ hold,hvars _ hold,World.keptBut_mono (fun p hp=>⟨hp,?_⟩) (hb.frame (· ∈ before)),fun _ =>?_⟩
 ·rw[hps,List.mem_append] at hp
  exact Or.inr hp
 ·obtain ⟨_,_,_,_,_,hz,hn⟩:=hW
  refine ⟨hok,_,_,([]++pa)++pv,⟨[]++pa,pv,trodAll_append (hargs _ (fun _ _=>rfl)) (hres _ _ _),hvars _ (fun _ _=>rfl),rfl,?_,?_⟩,?_⟩
  ·intro b off hp
   have hp':MemPlace.cell b off∈before:=by rw[hps];simpa using hp
   rw[hb.frozen (p:=⟨b,off,none⟩) (hlt _ hp')]
   exact hz b off hp'
  ·intro ha
   have:=hn ha
   rw[hps] at this
   simpa using this
  ·intro p hp _
   rw[hps]
   simpa using hp
theorem air{P:Program}{f:FuncId}{fn:Func}{s:ChangeSpec}{H:Type}{enc0:TypeId×Value→H}{W:World}{ds gs:List (DataW H)}{before:List MemPlace}{xs:List I}{tb:TypeId}{v0 v1 v2:Value}{t0 t1 t2:TypeId}{d0 d1 d2:DataW H}{p0 p1 p2:List MemPlace}{again handsOn j8:Bool}
  (hl:laidOutB P=true) (hpar:fn.params.toList=[t0,t1,t2]) (hds:ds=[d0,d1,d2]) (hgs:gs=[]) (hbef:before=p0++p1++p2)
  (hvars:s.vars=[]) (hfn:s.fn H [d0,d1,d2] = { results:=[.lit (.bool true)],args:=[d0,d1,d2] }) (hres:fn.resultTypes = #[tb]) (htb:P.underlying tb=some .bool)
  (hW:DataW.Whole enc0 P fn.params.toList s.vars false W #[v0,v1,v2].toList ds gs before)
  (h0:DataW.Trod enc0 P W 0 (fun _=>true) true t0 v0 d0 p0) (h1:DataW.Trod enc0 P W 0 (fun _=>true) true t1 v1 d1 p1) (h2:DataW.Trod enc0 P W 0 (fun _=>true) true t2 v2 d2 p2)
  (hr:∀ t∈[t0,t1,t2],P.readableRec t=true∧t<P.types.size)
  (hctr:av P f xs (enc true)) (hv:aI W (kA W) dE xs [v0,v1,v2]) :
  Calls P f #[v0,v1,v2] W fun e W'=>∃ v,e=.returned v∧s.post enc0 P fn false j8 handsOn again W #[v0,v1,v2] v W':=by
 subst hds hgs
 refine (hctr.2 W (kA W) [v0,v1,v2] (fun _ _ h=>h) hv).mono fun e W' ⟨v,D',he,hrv,hb,_,_⟩=>⟨v,he,?_⟩
 have hvb:v=.bool true:=lZ hrv
 subst hvb
 have hlt:∀ x∈before,x.block<W.heap.size:=fun x hx=>by simpa using hW.lt x hx
 rw[hbef] at hlt
 refine aks (pa:=p0++(p1++p2)) (pv:=[]) hW (fun _ _ _ =>?_) (fun sp hsp =>?_) (fun _ _ =>?_) (by rw[hbef];simp) hb ?_
 ·simp only[List.append_nil,hfn,hres]
  exact trodAll_mk1 (shut_bool htb true)
 ·simp only[List.append_nil,hfn,hpar]
  rw[hbef] at hsp
  have bg:∀ {t:TypeId} {v:Value} {d:DataW H} {p:List MemPlace},t∈[t0,t1,t2]→DataW.Trod enc0 P W 0 (fun _=>true) true t v d p→(∀ x∈p,x∈p0++p1++p2)→DataW.Trod enc0 P W' 0 sp true t v d p:=fun ht h hp =>
   WideElems.Trod_stays hl (hr _ ht).1 (hr _ ht).2 h (fun x hx=>hb.same (hlt x (hp x hx))) (fun x hx=>hsp x (hp x hx))
  exact trodAll_mk3 (bg (by simp) h0 fun x hx=>by simp[hx]) (bg (by simp) h1 fun x hx=>by simp[hx]) (bg (by simp) h2 fun x hx=>by simp[hx])
 ·simp only[List.append_nil,hfn,hvars]
  rfl
 ·intro j t r hj hv'
  rw[hres] at hj hv'
  match j,hj,hv' with
  |0,hj,hv' =>
   simp[Value.resultList] at hj hv'
   subst hj;subst hv'
   simp[Value.okWide,htb,Cell.okWide,Cell.ok]
def zM(P:Program)(u:TypeId)(n:Nat)(S:I→Prop):Prop:=P.cellsOf u=n ∧
 ∀ {H:Type} {enc0:TypeId×Value→H} {w:World} {fuel:Nat} {cs:List Value} {x:DataW H×List MemPlace},DataW.trod enc0 P w 0 (fun _=>true) true fuel u cs=some x→∃ v,S v∧af w (kA w) dE v cs
theorem iM.bx{P:Program}{u:TypeId}{α:Type}[Enc α](h:iM P u α):zM P u (Enc.sz α) fun v=>∃ a:α,v=enc a :=
 ⟨h.cells,fun hx=>by obtain ⟨a,ha⟩:=h.pW hx;exact ⟨enc a,⟨a,rfl⟩,ha⟩⟩
def rm(P:Program):Nat→List (TypeId×Nat)→List (Nat×(I→Prop))→Prop
 |_,[],[]=>True
 |o,(u,off)::l,(n,S)::Ss=>off=o∧zM P u n S∧rm P (o+n) l Ss
 |_,_,_=>False
def o6:List (Nat×(I→Prop))→List I→Prop
 | [],[]=>True
 |(_,S)::Ss,v::vs=>S v∧o6 Ss vs
 |_,_=>False
theorem lp{n:Nat}{S:I→Prop}{Ss:List (Nat×(I→Prop))} : ∀ {vs:List I},o6 ((n,S)::Ss) vs→∃ v vs',vs=v::vs'∧S v∧o6 Ss vs'
 | [],h=>h.elim
 |v::vs,h=>⟨v,vs,rfl,h.1,h.2⟩
theorem Pb:∀ {vs:List I},o6 [] vs→vs=[]
 | [],_=>rfl
 |_::_,h=>h.elim
def rM:List (Nat×(I→Prop))→Nat
 | []=>0
 |(n,_)::Ss=>n+rM Ss
theorem Dp{P:Program}{H:Type}{enc0:TypeId×Value→H}{w:World}{m:Nat}{cs:List Value} : ∀ (l:List (TypeId×Nat)) (Ss:List (Nat×(I→Prop))) (o:Nat),rm P o l Ss→cs.length=o+rM Ss →
  (∀ (i:Nat) (u:TypeId) (off:Nat),l[i]?=some (u,off)→∃ y,DataW.trod enc0 P w 0 (fun _=>true) true m u ((cs.drop off).take (P.cellsOf u))=some y)→∃ vs,o6 Ss vs∧aJ w (kA w) dE vs (cs.drop o)
 | [],[],o,_,hl,_=>⟨[],trivial,by simp only[aJ];exact List.drop_eq_nil_of_le (by simp only[rM] at hl;omega)⟩
 |(u,off)::l,(n,S)::Ss,o,h,hl,hf=>by
  obtain ⟨rfl,h2,h3⟩:=h
  obtain ⟨y,hy⟩:=hf 0 u off rfl
  obtain ⟨v,hv1,hv2⟩:=h2.2 hy
  obtain ⟨vs,k1,k2⟩:=Dp l Ss (off+n) h3 (by simp only[rM] at hl;omega) fun i u' o' hi=>hf (i+1) u' o' hi
  refine ⟨v::vs,⟨hv1,k1⟩,?_⟩
  simp only[aJ]
  rw[h2.1] at hv2
  exact ⟨_,(cs.drop off).drop n,(List.take_append_drop n _).symm,hv2,by rw[List.drop_drop];exact k2⟩
 | [],_::_,_,h,_,_=>h.elim
 |_::_,[],_,h,_,_=>by simp[rm] at h
theorem aka{P:Program}{t:TypeId}{H:Type}{enc0:TypeId×Value→H}{w:World}{fuel:Nat}{cs:List Value}{x:DataW H×List MemPlace}(l:List (TypeId×Nat))(Ss:List (Nat×(I→Prop)))(ht:qS P t l=true)(hok:rm P 0 l Ss)(hc:P.cellsOf t=rM Ss)(h:DataW.trod enc0 P w 0 (fun _=>true) true fuel t cs=some x) :
  ∃ vs,o6 Ss vs∧af w (kA w) dE (.agg vs) cs:=by
 obtain ⟨hl,m,hf⟩:=MV ht h
 obtain ⟨vs,k1,k2⟩:=Dp l Ss 0 hok (by rw[hl,hc];omega) hf
 exact ⟨vs,k1,by simpa only[af,List.drop_zero] using k2⟩
end Go.Abs
namespace Go.Abs.C
open Go Go.Abs
abbrev o(a:Nat)(x:b7):az:=⟨some a,x,none⟩
abbrev bD(a:Nat)(x:b7)(k:Nat):az:=⟨some a,x,some (k,true)⟩
abbrev on(a:Nat)(x:b7)(k:Nat):az:=⟨some a,x,some (k,false)⟩
abbrev p(x:b7):az:=⟨none,x,none⟩
abbrev aj(n:Int):aL:=.c (.int .i64 n)
abbrev T:aL:=.c (.bool true)
abbrev bl:aL:=.c (.bool false)
abbrev m(a b:Nat):az:=⟨some a,.mv (.t b),none⟩
abbrev cq(a b k:Nat):az:=⟨some a,.mv (.t b),some (k,true)⟩
abbrev eF(a b k:Nat):az:=⟨some a,.mv (.t b),some (k,false)⟩
abbrev aV(a:Nat)(n:Int):az:=⟨some a,.mv (.c (.int .i64 n)),none⟩
abbrev l(a b:Nat):az:=⟨some a,.ld none (.t b),none⟩
abbrev dB(a b k:Nat):az:=⟨some a,.ld none (.t b),some (k,true)⟩
abbrev dA(a b k:Nat):az:=⟨some a,.ld none (.t b),some (k,false)⟩
abbrev L(a s b:Nat):az:=⟨some a,.ld (some s) (.t b),none⟩
abbrev f(a b c d:Nat):az:=⟨some a,.fa b c (.t d),none⟩
abbrev cX(a b c d k:Nat):az:=⟨some a,.fa b c (.t d),some (k,true)⟩
abbrev fn(a b c d k:Nat):az:=⟨some a,.fa b c (.t d),some (k,false)⟩
abbrev ad(a b:Nat)(n:Int):az:=⟨some a,.bin .add (.t b) (.c (.int .i64 n)),none⟩
abbrev lt(a b c:Nat):az:=⟨some a,.bin .lss (.t b) (.t c),none⟩
abbrev and(a b c:Nat):az:=⟨some a,.pick (.t b) (.t c) (.c (.bool false)),none⟩
abbrev or(a b c:Nat):az:=⟨some a,.pick (.t b) (.c (.bool true)) (.t c),none⟩
abbrev no(a b:Nat):az:=⟨some a,.un .not (.t b),none⟩
abbrev b(a c:Nat):az:=⟨some a,.box (.t c),none⟩
abbrev s(x y:aO):aO:=.seq x y
abbrev r(g:List az):aO:=.bS none g
abbrev bE(P:Program)(f:Func)(c:aO):Prop:=f.body.bind (eY P f.ntmps)=some c
abbrev bF(P:Program)(f:Func)(r:List aZ):Prop:=iQ P f.results.toList=some r
abbrev bC(P:Program)(n:FuncId):Prop:=gR P n=true
theorem e{α:Type}{a b:α}(h:a=b):a=b:=h
end Go.Abs.C
namespace Go.Proofs.YtcldiigclhgafaaGreat
open Go Go.Abs Go.Abs.C
def agp:=[o 6 (.mv bl)]
def agq:=[m 24 0,m 25 2,o 26 (.call 40 [.t 24,.t 25]),m 23 26,o 27 (.ext (.t 23) 0),o 28 (.ext (.t 23) 1),m 7 27,m 8 28]
def agr:=[m 30 0,m 31 2,o 32 (.call 41 [.t 30,.t 31]),m 29 32,o 33 (.ext (.t 29) 0),o 34 (.ext (.t 29) 1),m 9 33,m 10 34]
def ags:=[m 36 0,m 37 2,o 38 (.call 42 [.t 36,.t 37]),m 35 38,o 39 (.ext (.t 35) 0),o 40 (.ext (.t 35) 1),m 11 39,m 12 40]
def agt:=[m 42 0,m 43 2,o 44 (.call 43 [.t 42,.t 43]),m 41 44,o 45 (.ext (.t 41) 0),o 46 (.ext (.t 41) 1),m 13 45,m 14 46]
def agu:=[m 48 0,o 49 (.call 44 [.t 48]),m 47 49,o 50 (.ext (.t 47) 0),o 51 (.ext (.t 47) 1),m 15 50,m 16 51]
def agv:=[m 53 0,o 54 (.call 45 [.t 53]),m 52 54,o 55 (.ext (.t 52) 0),o 56 (.ext (.t 52) 1),m 17 55,m 18 56]
def agw:=[m 58 0,m 59 1,m 60 2,o 61 (.call 39 [.t 58,.t 59,.t 60]),m 57 61,o 62 (.ext (.t 57) 0),o 63 (.ext (.t 57) 1),o 19 (.alloc (.agg [.int .i64 0,.int .i64 0,.int .i64 0,.int .i64 0,.int .i64 0,.int .i64 0,.int .i64 0,.bool false,.nils 6])),p (.bg (some 9) (.t 19) (.t 62)),m 20 63]
def agx:=[m 65 0,m 66 1,m 67 2,o 68 (.call 46 [.t 65,.t 66,.t 67]),m 64 68,o 69 (.ext (.t 64) 0),o 70 (.ext (.t 64) 1),o 21 (.alloc (.agg [.int .i64 0,.int .i64 0,.int .i64 0,.int .i64 0,.int .i64 0,.int .i64 0,.int .i64 0,.bool false,.nils 6])),p (.bg (some 9) (.t 21) (.t 69)),m 22 70]
def agy:=[m 71 7,m 72 9,o 73 (.call 20 [.t 71,.t 72]),m 74 73,cq 75 8 74,cq 76 10 74,bD 77 (.bin .eql (.t 75) (.t 76)) 74,and 78 74 77,m 79 78,cq 80 11 79,cq 81 13 79,bD 82 (.call 21 [.t 80,.t 81]) 79,and 83 79 82,m 84 83,cq 85 12 84,cq 86 14 84,bD 87 (.bin .eql (.t 85) (.t 86)) 84,and 88 84 87,m 89 88,cq 90 15 89,cq 91 17 89,bD 92 (.call 20 [.t 90,.t 91]) 89,and 93 89 92,m 94 93,cq 95 16 94,cq 96 18 94,bD 97 (.bin .eql (.t 95) (.t 96)) 94,and 98 94 97,m 99 98,bD 100 (.ld (some 9) (.t 19)) 99,bD 101 (.ld (some 9) (.t 21)) 99,bD 102 (.call 47 [.t 100,.t 101]) 99,and 103 99 102,m 104 103,cq 105 20 104,cq 106 22 104,bD 107 (.bin .eql (.t 105) (.t 106)) 104,and 108 104 107,m 109 108,bD 110 (.call 22 []) 109,and 111 109 110,m 6 111]
def B9:aO:=(s (r agp) (s (r agq) (s (r agr) (s (r ags) (s (r agt) (s (r agu) (s (r agv) (s (r agw) (s (r agx) (s (r agy) .ret))))))))))
def LQ:List aZ:=[.tmp 6]
theorem TG:bE Tryz.prog Tryz.f8 B9:=e (by kernel_rfl)
theorem VQ:bF Tryz.prog Tryz.f8 LQ:=e (by kernel_rfl)
theorem RI:bC Tryz.prog 8:=e (by kernel_rfl)
def aaa:=[b 4 0,o 8 (.mv (.c (.nils 1))),aV 9 0]
def aab:=[L 13 7 4,o 14 (.call 66 [.t 13]),m 10 14]
def aad:=[m 15 10,o 16 (.bin .neq (.t 15) (aj 0))]
def aae:=[m 17 10,o 8 (.mv (.c (.nils 1))),m 9 17]
def aaf:=[m 18 1,m 19 2,o 20 (.bld [.int .i64 0,.int .i64 0] [(0,(.t 19)),(1,(aj 9999))]),o 21 (.bs 2 [.t 20]),m 22 3,o 23 (.bs 1 [.t 22]),o 24 (.call 67 [.t 18,.t 21,.t 23]),m 11 24]
def aag:=[m 25 11,o 26 (.bin .neq (.t 25) (aj 0))]
def aah:=[m 27 11,o 8 (.mv (.c (.nils 1))),m 9 27]
def aai:=[m 28 1,m 29 3,o 30 (.call 68 [.t 28,.t 29]),o 31 (.nilC (.t 30)),f 32 0 0 31,l 33 32,m 34 2,o 35 (.lk (.i .i64) (.nilp) false (.t 33) (.t 34)),m 12 35]
def aaj:=[m 36 12,o 37 (.ptrE false (.t 36) (.c (.nilp)))]
def aak:=[o 8 (.mv (.c (.nils 1))),aV 9 42]
def aac:=[L 38 7 4,m 39 12,o 40 (.call 69 [.t 38,.t 39]),m 8 40,aV 9 0]
def AQ:aO:=(s (r aaa) (s (s (r aab) (s (r aad) (.cond (.t 16) (s (r aae) .ret) .skip))) (s (s (r aaf) (s (r aag) (.cond (.t 26) (s (r aah) .ret) .skip))) (s (r aai) (s (s (r aaj) (.cond (.t 37) (s (r aak) .ret) .skip)) (s (r aac) .ret))))))
def KD:List aZ:=[.tmp 8,.tmp 9]
theorem Sr:bE Tryz.prog Tryz.f14 AQ:=e (by kernel_rfl)
theorem UD:bF Tryz.prog Tryz.f14 KD:=e (by kernel_rfl)
theorem Qw:bC Tryz.prog 14:=e (by kernel_rfl)
def aap:=[b 3 0,o 6 (.mv (.c (.nils 1))),aV 7 0]
def aaq:=[L 10 7 3,o 11 (.call 66 [.t 10]),m 8 11]
def aar:=[m 12 8,o 13 (.bin .neq (.t 12) (aj 0))]
def aas:=[m 14 8,o 6 (.mv (.c (.nils 1))),m 7 14]
def aat:=[m 15 1,m 16 2,o 17 (.bs 1 [.t 16]),o 18 (.call 67 [.t 15,(.c (.nils 2)),.t 17]),m 9 18]
def aau:=[m 19 9,o 20 (.bin .neq (.t 19) (aj 0))]
def aav:=[m 21 9,o 6 (.mv (.c (.nils 1))),m 7 21]
def aaw:=[m 22 1,m 23 2,o 24 (.call 68 [.t 22,.t 23]),o 25 (.mk 73 [.t 3]),o 26 (.call 72 [.t 24,.t 25]),m 6 26,aV 7 0]
def A6:aO:=(s (r aap) (s (s (r aaq) (s (r aar) (.cond (.t 13) (s (r aas) .ret) .skip))) (s (s (r aat) (s (r aau) (.cond (.t 20) (s (r aav) .ret) .skip))) (s (r aaw) .ret))))
def KP:List aZ:=[.tmp 6,.tmp 7]
theorem SE:bE Tryz.prog Tryz.f16 A6:=e (by kernel_rfl)
theorem UP:bF Tryz.prog Tryz.f16 KP:=e (by kernel_rfl)
theorem QH:bC Tryz.prog 16:=e (by kernel_rfl)
def abt:=[b 4 0,o 8 (.mv (.c (.nils 2))),aV 9 0]
def abu:=[L 17 7 4,m 18 1,m 19 2,m 20 3,o 21 (.call 14 [.t 17,.t 18,.t 19,.t 20]),m 16 21,o 22 (.ext (.t 16) 0),o 23 (.ext (.t 16) 1),m 10 22,m 11 23]
def aby:=[m 24 11,o 25 (.bin .neq (.t 24) (aj 0))]
def abz:=[m 26 11,o 8 (.mv (.c (.nils 2))),m 9 26]
def abA:=[m 27 1,m 28 3,o 29 (.call 68 [.t 27,.t 28]),o 30 (.nilC (.t 29)),f 31 0 0 30,l 32 31,m 33 2,o 34 (.lk (.i .i64) (.nilp) false (.t 32) (.t 33)),m 12 34]
def abB:=[o 13 (.mv (.c (.nils 2)))]
def abC:=[m 35 1,o 36 (.len (.t 35)),aV 37 0]
def abD:=[lt 38 37 36]
def abE:=[m 39 37,o 40 (.is 17 (.t 35) (.t 37)),L 41 17 40,o 15 (.alloc (.agg [.agg [.int .i64 0,.int .i64 0],.int .i64 0,.int .i64 0,.int .i64 0,.int .i64 0,.int .i64 0,.int .i64 0,.int .i64 0,.agg [.int .i64 0,.int .i64 0,.int .i64 0,.int .i64 0,.int .i64 0,.int .i64 0],.agg [.int .i64 0,.int .i64 0]])),m 14 39,p (.bg (some 17) (.t 15) (.t 41))]
def abF:=[L 42 7 4,m 43 12,m 44 1,m 45 14,o 46 (.call 78 [.t 44,.t 45]),m 47 3,o 48 (.call 68 [.t 46,.t 47]),o 49 (.nilC (.t 48)),f 50 0 0 49,l 51 50,m 52 2,o 53 (.lk (.i .i64) (.nilp) false (.t 51) (.t 52)),o 54 (.call 77 [.t 42,.t 43,.t 53]),no 55 54]
def Wt:=some [[],[],[],[],[2,3],[],[4,5,4],[6],[7],[8],[],[9,10],[0,1,11,6],[12]]
def abv:=[m 56 13,f 57 0 0 15,L 58 2 57,o 59 (.bs 2 [.t 58]),o 60 (.cL 65 2 16 (.agg [.int .i64 0,.int .i64 0]) (.t 56) (.t 59)),m 13 60]
def abw:=[ad 61 37 1,m 37 61]
def abx:=[m 62 13,m 8 62,aV 9 0]
def Bp:aO:=(s (r abt) (s (s (r abu) (s (r aby) (.cond (.t 25) (s (r abz) .ret) .skip))) (s (r abA) (s (r abB) (s (s (r abC) (.block 0 (.loop (s (r abD) (s (.cond (.t 38) .skip (.exit 0)) (s (.block 1 (s (r abE) (s (.bS Wt abF) (.cond (.t 55) (r abv) .skip)))) (r abw))))))) (s (r abx) .ret))))))
def K8:List aZ:=[.tmp 8,.tmp 9]
theorem SY:bE Tryz.prog Tryz.f18 Bp:=e (by kernel_rfl)
theorem U9:bF Tryz.prog Tryz.f18 K8:=e (by kernel_rfl)
theorem Q0:bC Tryz.prog 18:=e (by kernel_rfl)
def Hs:=[o 4 (.mv bl)]
def Ht:=[m 6 0,o 7 (.len (.t 6)),m 8 1,o 9 (.len (.t 8)),o 10 (.bin .neq (.t 7) (.t 9))]
def Hu:=[o 4 (.mv bl)]
def Hv:=[aV 5 0]
def Hw:=[m 11 5,m 12 0,o 13 (.len (.t 12)),lt 14 11 13]
def Hx:=[m 17 0,m 18 5,o 19 (.is 1 (.t 17) (.t 18)),l 20 19,m 21 1,m 22 5,o 23 (.is 1 (.t 21) (.t 22)),l 24 23,o 25 (.bin .neq (.t 20) (.t 24))]
def WD:=some [[],[],[0,1],[2],[],[],[4,5],[6],[3,7]]
def Hy:=[o 4 (.mv bl)]
def Hz:=[m 15 5,ad 16 15 1,m 5 16]
def HA:=[o 4 (.mv T)]
def By:aO:=(s (r Hs) (s (s (r Ht) (.cond (.t 10) (s (r Hu) .ret) .skip)) (s (s (r Hv) (.block 0 (.loop (s (s (r Hw) (.cond (.t 14) .skip (.exit 0))) (s (.block 1 (s (.bS WD Hx) (.cond (.t 25) (s (r Hy) .ret) .skip))) (r Hz)))))) (s (r HA) .ret))))
def Lg:List aZ:=[.tmp 4]
theorem S6:bE Tryz.prog Tryz.f20 By:=e (by kernel_rfl)
theorem Vh:bF Tryz.prog Tryz.f20 Lg:=e (by kernel_rfl)
theorem Q8:bC Tryz.prog 20:=e (by kernel_rfl)
def ach:=[o 4 (.mv bl)]
def aci:=[m 6 0,o 7 (.len (.t 6)),m 8 1,o 9 (.len (.t 8)),o 10 (.bin .neq (.t 7) (.t 9))]
def acj:=[o 4 (.mv bl)]
def ack:=[aV 5 0]
def acm:=[m 11 5,m 12 0,o 13 (.len (.t 12)),lt 14 11 13]
def acn:=[m 17 0,m 18 5,o 19 (.is 2 (.t 17) (.t 18)),L 20 2 19,m 21 1,m 22 5,o 23 (.is 2 (.t 21) (.t 22)),L 24 2 23,o 25 (.eqv (.bg [(.i .i64),(.i .i64)]) true (.t 20) (.t 24))]
def WH:=some [[],[],[0,1],[2],[],[],[4,5],[6],[3,7]]
def aco:=[o 4 (.mv bl)]
def acp:=[m 15 5,ad 16 15 1,m 5 16]
def acq:=[o 4 (.mv T)]
def BB:aO:=(s (r ach) (s (s (r aci) (.cond (.t 10) (s (r acj) .ret) .skip)) (s (s (r ack) (.block 0 (.loop (s (s (r acm) (.cond (.t 14) .skip (.exit 0))) (s (.block 1 (s (.bS WH acn) (.cond (.t 25) (s (r aco) .ret) .skip))) (r acp)))))) (s (r acq) .ret))))
def Lj:List aZ:=[.tmp 4]
theorem S9:bE Tryz.prog Tryz.f21 BB:=e (by kernel_rfl)
theorem Vk:bF Tryz.prog Tryz.f21 Lj:=e (by kernel_rfl)
theorem Rb:bC Tryz.prog 21:=e (by kernel_rfl)
def acr:=[o 0 (.mv bl)]
def acs:=[o 18 (.call 81 []),m 1 18]
def acw:=[o 19 (.call 82 []),o 2 (.alloc (.agg [.agg [.int .i64 0,.int .i64 0,.int .i64 0,.int .i64 0,.int .i64 0],.int .i64 0,.nils 7])),p (.bg (some 7) (.t 2) (.t 19))]
def acx:=[m 21 1,o 22 (.call 27 [.t 21,(aj 10),(aj 6),(aj 7)]),m 20 22,o 23 (.ext (.t 20) 0),o 24 (.ext (.t 20) 1),m 3 23,m 4 24]
def acy:=[L 26 7 2,m 27 1,o 28 (.call 14 [.t 26,.t 27,(aj 20),(aj 9)]),m 25 28,o 29 (.ext (.t 25) 0),o 30 (.ext (.t 25) 1),m 5 29,m 6 30]
def acz:=[L 32 7 2,m 33 1,o 34 (.call 14 [.t 32,.t 33,(aj 20),(aj 14)]),m 31 34,o 35 (.ext (.t 31) 0),o 36 (.ext (.t 31) 1),m 7 35,m 8 36]
def acA:=[L 38 7 2,m 39 1,o 40 (.call 16 [.t 38,.t 39,(aj 11)]),m 37 40,o 41 (.ext (.t 37) 0),o 42 (.ext (.t 37) 1),m 9 41,m 10 42]
def acB:=[m 44 1,o 45 (.call 28 [.t 44,(aj 2),(aj 3),(aj 7),(aj 7)]),m 43 45,o 46 (.ext (.t 43) 0),o 47 (.ext (.t 43) 1),m 11 46,m 12 47]
def acC:=[m 49 1,o 50 (.call 26 [.t 49,(aj 12),(aj 12)]),m 48 50,o 51 (.ext (.t 48) 0),o 52 (.ext (.t 48) 1),m 13 51,m 14 52]
def acD:=[L 54 7 2,m 55 1,o 56 (.call 18 [.t 54,.t 55,(aj 20),(aj 9)]),m 53 56,o 57 (.ext (.t 53) 0),o 58 (.ext (.t 53) 1),m 15 57,m 16 58]
def acu:=[m 59 4,o 60 (.bin .eql (.t 59) (aj 0)),m 61 60,cq 62 6 61,bD 63 (.bin .eql (.t 62) (aj 0)) 61,and 64 61 63,m 65 64,cq 66 8 65,bD 67 (.bin .eql (.t 66) (aj 0)) 65,and 68 65 67,m 69 68,cq 70 10 69,bD 71 (.bin .eql (.t 70) (aj 0)) 69,and 72 69 71,m 73 72,cq 74 12 73,bD 75 (.bin .eql (.t 74) (aj 0)) 73,and 76 73 75,m 77 76,cq 78 14 77,bD 79 (.bin .eql (.t 78) (aj 0)) 77,and 80 77 79,m 81 80,cq 82 16 81,bD 83 (.bin .eql (.t 82) (aj 0)) 81,and 84 81 83,m 17 84]
def acv:=[m 85 17,m 86 85,cq 87 3 86,bD 88 (.bin .eql (.t 87) (aj 2)) 86,and 89 86 88,m 90 89,cq 91 5 90,bD 92 (.bs 1 [(aj 3)]) 90,bD 93 (.call 20 [.t 91,.t 92]) 90,and 94 90 93,m 95 94,cq 96 7 95,bD 97 (.bs 1 [(aj 1),(aj 2),(aj 3)]) 95,bD 98 (.call 20 [.t 96,.t 97]) 95,and 99 95 98,m 100 99,cq 101 9 100,bD 102 (.bs 1 [(aj 11)]) 100,bD 103 (.call 20 [.t 101,.t 102]) 100,and 104 100 103,m 105 104,cq 106 11 105,bD 107 (.bin .eql (.t 106) (aj 1)) 105,and 108 105 107,m 109 108,cq 110 13 109,bD 111 (.bs 1 [(aj 11),(aj 20)]) 109,bD 112 (.call 20 [.t 110,.t 111]) 109,and 113 109 112,m 114 113,cq 115 15 114,bD 116 (.bld [.int .i64 0,.int .i64 0] [(1,(aj 2))]) 114,bD 117 (.bld [.int .i64 0,.int .i64 0] [(1,(aj 5))]) 114,bD 118 (.bs 2 [.t 116,.t 117]) 114,bD 119 (.call 21 [.t 115,.t 118]) 114,and 120 114 119,m 0 120]
def BG:aO:=(s (r acr) (s (r acs) (s (r acw) (s (r acx) (s (r acy) (s (r acz) (s (r acA) (s (r acB) (s (r acC) (s (r acD) (s (r acu) (s (r acv) .ret))))))))))))
def Lo:List aZ:=[.tmp 0]
theorem Te:bE Tryz.prog Tryz.f22 BG:=e (by kernel_rfl)
theorem Vp:bF Tryz.prog Tryz.f22 Lo:=e (by kernel_rfl)
theorem Rh:bC Tryz.prog 22:=e (by kernel_rfl)
def acE:=[o 6 (.mv (.c (.nils 1))),aV 7 0]
def acF:=[m 11 0,m 12 1,m 13 2,o 14 (.bs 1 [.t 12,.t 13]),o 15 (.call 67 [.t 11,(.c (.nils 2)),.t 14]),m 8 15]
def acG:=[m 16 8,o 17 (.bin .neq (.t 16) (aj 0))]
def acH:=[m 18 8,o 6 (.mv (.c (.nils 1))),m 7 18]
def acI:=[m 20 0,m 21 1,m 22 2,o 23 (.call 88 [.t 20,.t 21,.t 22]),m 19 23,o 24 (.ext (.t 19) 0),o 25 (.ext (.t 19) 1),m 9 24,m 10 25]
def acJ:=[m 26 9,o 27 (.call 72 [.t 26,(.c (.func 89 []))]),m 6 27,aV 7 0]
def BH:aO:=(s (r acE) (s (s (r acF) (s (r acG) (.cond (.t 17) (s (r acH) .ret) .skip))) (s (r acI) (s (r acJ) .ret))))
def Lp:List aZ:=[.tmp 6,.tmp 7]
theorem Tf:bE Tryz.prog Tryz.f26 BH:=e (by kernel_rfl)
theorem Vq:bF Tryz.prog Tryz.f26 Lp:=e (by kernel_rfl)
theorem Ri:bC Tryz.prog 26:=e (by kernel_rfl)
def acK:=[aV 8 0,aV 9 0]
def acL:=[m 14 0,m 15 1,o 16 (.bld [.int .i64 0,.int .i64 0] [(0,(.t 15)),(1,(aj 9999))]),o 17 (.bs 2 [.t 16]),m 18 2,m 19 3,o 20 (.bs 1 [.t 18,.t 19]),o 21 (.call 67 [.t 14,.t 17,.t 20]),m 10 21]
def acN:=[m 22 10,o 23 (.bin .neq (.t 22) (aj 0))]
def acO:=[m 24 10,aV 8 0,m 9 24]
def acP:=[m 26 0,m 27 2,m 28 3,o 29 (.call 88 [.t 26,.t 27,.t 28]),m 25 29,o 30 (.ext (.t 25) 0),o 31 (.ext (.t 25) 1),m 11 30,m 12 31]
def acQ:=[m 32 11,o 33 (.nilC (.t 32)),f 34 0 0 33,l 35 34,m 36 1,o 37 (.lk (.i .i64) (.nilp) false (.t 35) (.t 36)),m 13 37]
def acR:=[m 39 13,o 40 (.ptrE false (.t 39) (.c (.nilp))),m 38 40]
def acS:=[aV 8 0,aV 9 42]
def acT:=[m 42 13,o 43 (.call 90 [.t 42]),m 41 43]
def acU:=[aV 8 0,aV 9 0]
def acM:=[m 44 13,o 45 (.nilC (.t 44)),f 46 0 0 45,f 47 3 3 46,l 48 47,m 8 48,aV 9 0]
def BI:aO:=(s (r acK) (s (s (r acL) (s (r acN) (.cond (.t 23) (s (r acO) .ret) .skip))) (s (r acP) (s (r acQ) (s (.block 0 (s (r acR) (.cond (.t 38) (s (r acS) .ret) (s (r acT) (.cond (.t 41) (s (r acU) .ret) .skip))))) (s (r acM) .ret))))))
def Lq:List aZ:=[.tmp 8,.tmp 9]
theorem Tg:bE Tryz.prog Tryz.f27 BI:=e (by kernel_rfl)
theorem Vr:bF Tryz.prog Tryz.f27 Lq:=e (by kernel_rfl)
theorem Rj:bC Tryz.prog 27:=e (by kernel_rfl)
def acV:=[b 6 1,b 7 2,aV 10 0,aV 11 0]
def acW:=[m 15 0,l 16 6,o 17 (.bld [.int .i64 0,.int .i64 0] [(0,(.t 16)),(1,(aj 99))]),l 18 7,o 19 (.bld [.int .i64 0,.int .i64 0] [(0,(.t 18)),(1,(aj 9))]),o 20 (.bs 2 [.t 17,.t 19]),m 21 3,m 22 4,o 23 (.bs 1 [.t 21,.t 22]),o 24 (.call 67 [.t 15,.t 20,.t 23]),m 12 24]
def acX:=[m 25 12,o 26 (.bin .neq (.t 25) (aj 0))]
def acY:=[m 27 12,aV 10 0,m 11 27]
def acZ:=[m 29 0,m 30 3,m 31 4,o 32 (.call 88 [.t 29,.t 30,.t 31]),m 28 32,o 33 (.ext (.t 28) 0),o 34 (.ext (.t 28) 1),m 13 33,m 14 34]
def ac0:=[m 35 13,o 36 (.mk 91 [.t 6,.t 7]),o 37 (.call 72 [.t 35,.t 36]),o 38 (.len (.t 37)),m 10 38,aV 11 0]
def BJ:aO:=(s (r acV) (s (s (r acW) (s (r acX) (.cond (.t 26) (s (r acY) .ret) .skip))) (s (r acZ) (s (r ac0) .ret))))
def Lr:List aZ:=[.tmp 10,.tmp 11]
theorem Th:bE Tryz.prog Tryz.f28 BJ:=e (by kernel_rfl)
theorem Vs:bF Tryz.prog Tryz.f28 Lr:=e (by kernel_rfl)
theorem Rk:bC Tryz.prog 28:=e (by kernel_rfl)
def ac1:=[o 6 (.alloc (.agg [.int .i64 0,.int .i64 0,.int .i64 0,.int .i64 0,.int .i64 0,.int .i64 0,.int .i64 0,.bool false,.nils 6])),aV 7 0]
def ac2:=[m 10 0,m 11 1,o 12 (.bld [.int .i64 0,.int .i64 0] [(0,(.t 11)),(1,(aj 9999))]),o 13 (.bs 2 [.t 12]),m 14 2,o 15 (.bs 1 [.t 14]),o 16 (.call 67 [.t 10,.t 13,.t 15]),m 8 16]
def ac3:=[m 17 8,o 18 (.bin .neq (.t 17) (aj 0))]
def ac4:=[o 19 (.bld [.int .i64 0,.int .i64 0,.int .i64 0,.int .i64 0,.int .i64 0,.int .i64 0,.int .i64 0,.bool false,.nils 6] []),m 20 8,p (.bg (some 9) (.t 6) (.t 19)),m 7 20]
def ac5:=[m 21 0,m 22 2,o 23 (.call 68 [.t 21,.t 22]),o 24 (.nilC (.t 23)),f 25 0 0 24,l 26 25,m 27 1,o 28 (.lk (.i .i64) (.nilp) false (.t 26) (.t 27)),m 9 28]
def ac6:=[m 29 9,o 30 (.ptrE false (.t 29) (.c (.nilp)))]
def ac7:=[o 31 (.bld [.int .i64 0,.int .i64 0,.int .i64 0,.int .i64 0,.int .i64 0,.int .i64 0,.int .i64 0,.bool false,.nils 6] []),p (.bg (some 9) (.t 6) (.t 31)),aV 7 42]
def ac8:=[m 32 9,o 33 (.nilC (.t 32)),f 34 0 0 33,L 35 9 34,p (.bg (some 9) (.t 6) (.t 35)),aV 7 0]
def BK:aO:=(s (r ac1) (s (s (r ac2) (s (r ac3) (.cond (.t 18) (s (r ac4) .ret) .skip))) (s (r ac5) (s (s (r ac6) (.cond (.t 30) (s (r ac7) .ret) .skip)) (s (r ac8) .ret)))))
def Ls:List aZ:=[.cell 6 (some 9),.tmp 7]
theorem Ti:bE Tryz.prog Tryz.f39 BK:=e (by kernel_rfl)
theorem Vt:bF Tryz.prog Tryz.f39 Ls:=e (by kernel_rfl)
theorem Rl:bC Tryz.prog 39:=e (by kernel_rfl)
def ac9:=[o 4 (.mv (.c (.nils 1))),aV 5 0]
def ada:=[m 7 0,m 8 1,o 9 (.bs 1 [.t 8]),o 10 (.call 67 [.t 7,(.c (.nils 2)),.t 9]),m 6 10]
def adb:=[m 11 6,o 12 (.bin .neq (.t 11) (aj 0))]
def ade:=[m 13 6,o 4 (.mv (.c (.nils 1))),m 5 13]
def adf:=[m 14 0,m 15 1,o 16 (.call 105 [.t 14,.t 15]),o 17 (.call 104 [.t 16]),m 4 17,aV 5 0]
def BL:aO:=(s (r ac9) (s (s (r ada) (s (r adb) (.cond (.t 12) (s (r ade) .ret) .skip))) (s (r adf) .ret)))
def Lt:List aZ:=[.tmp 4,.tmp 5]
theorem Tj:bE Tryz.prog Tryz.f40 BL:=e (by kernel_rfl)
theorem Vu:bF Tryz.prog Tryz.f40 Lt:=e (by kernel_rfl)
theorem Rm:bC Tryz.prog 40:=e (by kernel_rfl)
def adg:=[o 4 (.mv (.c (.nils 1))),aV 5 0]
def adh:=[m 9 0,o 10 (.call 65 [.t 9]),o 11 (.bin .neq (.t 10) (aj 0))]
def adl:=[o 4 (.mv (.c (.nils 1))),aV 5 41]
def adm:=[m 12 1,o 13 (.call 75 [.t 12]),no 14 13]
def adn:=[o 4 (.mv (.c (.nils 1))),aV 5 6]
def ado:=[m 15 0,m 16 1,o 17 (.call 106 [.t 15,.t 16]),m 6 17]
def adp:=[o 7 (.mv (.c (.nils 1)))]
def adq:=[aV 8 0]
def adr:=[m 18 8,m 19 0,o 20 (.len (.t 19)),lt 21 18 20]
def ads:=[m 24 6,m 25 8,o 26 (.is 1 (.t 24) (.t 25)),l 27 26]
def adi:=[m 28 7,m 29 8,o 30 (.bs 1 [.t 29]),o 31 (.cL 3 1 8 (.int .i64 0) (.t 28) (.t 30)),m 7 31]
def adj:=[m 22 8,ad 23 22 1,m 8 23]
def adk:=[m 32 7,m 4 32,aV 5 0]
def BM:aO:=(s (r adg) (s (s (r adh) (.cond (.t 11) (s (r adl) .ret) .skip)) (s (s (r adm) (.cond (.t 14) (s (r adn) .ret) .skip)) (s (r ado) (s (r adp) (s (s (r adq) (.block 0 (.loop (s (s (r adr) (.cond (.t 21) .skip (.exit 0))) (s (.block 1 (s (r ads) (.cond (.t 27) (r adi) .skip))) (r adj)))))) (s (r adk) .ret)))))))
def Lu:List aZ:=[.tmp 4,.tmp 5]
theorem Tk:bE Tryz.prog Tryz.f41 BM:=e (by kernel_rfl)
theorem Vv:bF Tryz.prog Tryz.f41 Lu:=e (by kernel_rfl)
theorem Rn:bC Tryz.prog 41:=e (by kernel_rfl)
def adt:=[o 4 (.mv (.c (.nils 2))),aV 5 0]
def adu:=[m 12 0,m 13 1,o 14 (.bs 1 [.t 13]),o 15 (.call 67 [.t 12,(.c (.nils 2)),.t 14]),m 6 15]
def adx:=[m 16 6,o 17 (.bin .neq (.t 16) (aj 0))]
def ady:=[m 18 6,o 4 (.mv (.c (.nils 2))),m 5 18]
def adz:=[o 7 (.mv (.c (.nils 2)))]
def adA:=[m 20 0,m 21 1,o 22 (.call 88 [.t 20,(aj 100000),.t 21]),m 19 22,o 23 (.ext (.t 19) 0),o 24 (.ext (.t 19) 1),m 8 23,m 9 24]
def adB:=[m 25 9,o 26 (.len (.t 25)),aV 27 0]
def adC:=[lt 28 27 26]
def adD:=[o 29 (.is 1 (.t 25) (.t 27)),l 30 29,m 11 30]
def adE:=[m 31 7,m 32 0,m 33 11,o 34 (.is 17 (.t 32) (.t 33)),f 35 0 0 34,L 36 2 35,o 37 (.bs 2 [.t 36]),o 38 (.cL 65 2 16 (.agg [.int .i64 0,.int .i64 0]) (.t 31) (.t 37)),m 7 38]
def adv:=[ad 39 27 1,m 27 39]
def adw:=[m 40 7,m 4 40,aV 5 0]
def BN:aO:=(s (r adt) (s (s (r adu) (s (r adx) (.cond (.t 17) (s (r ady) .ret) .skip))) (s (r adz) (s (r adA) (s (s (r adB) (.block 0 (.loop (s (r adC) (s (.cond (.t 28) .skip (.exit 0)) (s (.block 1 (s (r adD) (r adE))) (r adv))))))) (s (r adw) .ret))))))
def Lv:List aZ:=[.tmp 4,.tmp 5]
theorem Tl:bE Tryz.prog Tryz.f42 BN:=e (by kernel_rfl)
theorem Vw:bF Tryz.prog Tryz.f42 Lv:=e (by kernel_rfl)
theorem Ro:bC Tryz.prog 42:=e (by kernel_rfl)
def adF:=[o 4 (.mv (.c (.nils 2))),aV 5 0]
def adG:=[m 9 0,o 10 (.call 65 [.t 9]),o 11 (.bin .neq (.t 10) (aj 0))]
def adJ:=[o 4 (.mv (.c (.nils 2))),aV 5 41]
def adK:=[m 12 1,o 13 (.call 75 [.t 12]),no 14 13]
def adL:=[o 4 (.mv (.c (.nils 2))),aV 5 6]
def adM:=[m 15 0,m 16 1,o 17 (.call 76 [.t 15,.t 16,(aj 100000)]),o 18 (.fl 1 1 none (.t 17)),m 6 18]
def adN:=[o 7 (.mv (.c (.nils 2)))]
def adO:=[aV 8 0]
def adP:=[m 19 8,m 20 6,o 21 (.len (.t 20)),lt 22 19 21]
def adQ:=[m 25 7,m 26 0,m 27 6,m 28 8,o 29 (.is 1 (.t 27) (.t 28)),l 30 29,o 31 (.is 17 (.t 26) (.t 30)),f 32 0 0 31,L 33 2 32,o 34 (.bs 2 [.t 33]),o 35 (.cL 65 2 16 (.agg [.int .i64 0,.int .i64 0]) (.t 25) (.t 34)),m 7 35]
def adH:=[m 23 8,ad 24 23 1,m 8 24]
def adI:=[m 36 7,m 4 36,aV 5 0]
def BO:aO:=(s (r adF) (s (s (r adG) (.cond (.t 11) (s (r adJ) .ret) .skip)) (s (s (r adK) (.cond (.t 14) (s (r adL) .ret) .skip)) (s (r adM) (s (r adN) (s (s (r adO) (.block 0 (.loop (s (s (r adP) (.cond (.t 22) .skip (.exit 0))) (s (.block 1 (r adQ)) (r adH)))))) (s (r adI) .ret)))))))
def Lw:List aZ:=[.tmp 4,.tmp 5]
theorem Tm:bE Tryz.prog Tryz.f43 BO:=e (by kernel_rfl)
theorem Vx:bF Tryz.prog Tryz.f43 Lw:=e (by kernel_rfl)
theorem Rp:bC Tryz.prog 43:=e (by kernel_rfl)
def adR:=[o 2 (.mv (.c (.nils 1))),aV 3 0]
def adS:=[m 8 0,o 9 (.call 64 [.t 8]),m 4 9]
def adU:=[m 10 4,o 11 (.bin .neq (.t 10) (aj 0))]
def adV:=[m 12 4,o 2 (.mv (.c (.nils 1))),m 3 12]
def adW:=[o 5 (.mv (.c (.nils 1)))]
def adX:=[m 13 0,o 14 (.len (.t 13)),aV 15 0]
def HR:=[lt 16 15 14]
def adY:=[o 17 (.is 17 (.t 13) (.t 15)),L 18 17 17,o 7 (.alloc (.agg [.agg [.int .i64 0,.int .i64 0],.int .i64 0,.int .i64 0,.int .i64 0,.int .i64 0,.int .i64 0,.int .i64 0,.int .i64 0,.agg [.int .i64 0,.int .i64 0,.int .i64 0,.int .i64 0,.int .i64 0,.int .i64 0],.agg [.int .i64 0,.int .i64 0]])),p (.bg (some 17) (.t 7) (.t 18))]
def adZ:=[m 19 5,f 20 3 4 7,l 21 20,o 22 (.bs 1 [.t 21]),o 23 (.cL 3 1 8 (.int .i64 0) (.t 19) (.t 22)),m 5 23]
def ad0:=[ad 24 15 1,m 15 24]
def adT:=[m 25 5,o 26 (.call 107 [.t 25])]
def HQ:=[m 27 5,o 28 (.call 108 [.t 27]),m 2 28,aV 3 0]
def BP:aO:=(s (r adR) (s (s (r adS) (s (r adU) (.cond (.t 11) (s (r adV) .ret) .skip))) (s (r adW) (s (s (r adX) (.block 0 (.loop (s (r HR) (s (.cond (.t 16) .skip (.exit 0)) (s (.block 1 (s (r adY) (r adZ))) (r ad0))))))) (s (r adT) (s (r HQ) .ret))))))
def Lx:List aZ:=[.tmp 2,.tmp 3]
theorem Tn:bE Tryz.prog Tryz.f44 BP:=e (by kernel_rfl)
theorem Vy:bF Tryz.prog Tryz.f44 Lx:=e (by kernel_rfl)
theorem Rq:bC Tryz.prog 44:=e (by kernel_rfl)
def ad3:=[o 2 (.mv (.c (.nils 1))),aV 3 0]
def ad4:=[m 6 0,o 7 (.call 65 [.t 6]),o 8 (.bin .neq (.t 7) (aj 0))]
def ad5:=[o 2 (.mv (.c (.nils 1))),aV 3 41]
def ad6:=[o 4 (.mv (.c (.nils 1)))]
def ad7:=[aV 5 0]
def ad8:=[m 9 5,m 10 0,o 11 (.len (.t 10)),lt 12 9 11]
def ad9:=[m 15 4,m 16 0,m 17 5,o 18 (.is 17 (.t 16) (.t 17)),f 19 3 4 18,l 20 19,o 21 (.bs 1 [.t 20]),o 22 (.cL 3 1 8 (.int .i64 0) (.t 15) (.t 21)),m 4 22]
def aea:=[m 13 5,ad 14 13 1,m 5 14]
def aeb:=[m 23 4,o 24 (.call 97 [.t 23]),m 2 24,aV 3 0]
def BQ:aO:=(s (r ad3) (s (s (r ad4) (.cond (.t 8) (s (r ad5) .ret) .skip)) (s (r ad6) (s (s (r ad7) (.block 0 (.loop (s (s (r ad8) (.cond (.t 12) .skip (.exit 0))) (s (.block 1 (r ad9)) (r aea)))))) (s (r aeb) .ret)))))
def Ly:List aZ:=[.tmp 2,.tmp 3]
theorem Tp:bE Tryz.prog Tryz.f45 BQ:=e (by kernel_rfl)
theorem Vz:bF Tryz.prog Tryz.f45 Ly:=e (by kernel_rfl)
theorem Rr:bC Tryz.prog 45:=e (by kernel_rfl)
def aec:=[o 6 (.alloc (.agg [.int .i64 0,.int .i64 0,.int .i64 0,.int .i64 0,.int .i64 0,.int .i64 0,.int .i64 0,.bool false,.nils 6])),aV 7 0]
def aed:=[m 11 0,m 12 1,m 13 2,o 14 (.call 92 [.t 11,.t 12,.t 13]),m 8 14]
def aee:=[m 15 8,o 16 (.bin .neq (.t 15) (aj 0))]
def aef:=[o 17 (.bld [.int .i64 0,.int .i64 0,.int .i64 0,.int .i64 0,.int .i64 0,.int .i64 0,.int .i64 0,.bool false,.nils 6] []),m 18 8,p (.bg (some 9) (.t 6) (.t 17)),m 7 18]
def aeg:=[m 19 0,m 20 2,o 21 (.call 76 [.t 19,.t 20,(aj 100000)]),o 9 (.alloc (.agg [.nils 9,.nils 1])),p (.bg (some 2) (.t 9) (.t 21))]
def aeh:=[f 22 0 0 9,l 23 22,m 24 1,o 25 (.call 93 [.t 23,.t 24]),m 10 25]
def aei:=[m 26 10,o 27 (.bin .lss (.t 26) (aj 0))]
def aej:=[o 28 (.bld [.int .i64 0,.int .i64 0,.int .i64 0,.int .i64 0,.int .i64 0,.int .i64 0,.int .i64 0,.bool false,.nils 6] []),p (.bg (some 9) (.t 6) (.t 28)),aV 7 42]
def aek:=[f 29 0 0 9,l 30 29,m 31 10,o 32 (.is 9 (.t 30) (.t 31)),L 33 9 32,p (.bg (some 9) (.t 6) (.t 33)),aV 7 0]
def BR:aO:=(s (r aec) (s (r aed) (s (s (r aee) (.cond (.t 16) (s (r aef) .ret) .skip)) (s (r aeg) (s (r aeh) (s (s (r aei) (.cond (.t 27) (s (r aej) .ret) .skip)) (s (r aek) .ret)))))))
def Lz:List aZ:=[.cell 6 (some 9),.tmp 7]
theorem Tq:bE Tryz.prog Tryz.f46 BR:=e (by kernel_rfl)
theorem VA:bF Tryz.prog Tryz.f46 Lz:=e (by kernel_rfl)
theorem Rs:bC Tryz.prog 46:=e (by kernel_rfl)
def ael:=[b 2 0,b 3 1,o 4 (.mv bl)]
def aem:=[f 6 0 0 2,l 7 6,f 8 0 0 3,l 9 8,o 10 (.bin .neq (.t 7) (.t 9)),m 11 10,fn 12 1 1 2 11,dA 13 12 11,fn 14 1 1 3 11,dA 15 14 11,on 16 (.bin .neq (.t 13) (.t 15)) 11,or 17 11 16,m 18 17,fn 19 2 2 2 18,dA 20 19 18,fn 21 2 2 3 18,dA 22 21 18,on 23 (.bin .neq (.t 20) (.t 22)) 18,or 24 18 23,m 25 24,fn 26 3 3 2 25,dA 27 26 25,fn 28 3 3 3 25,dA 29 28 25,on 30 (.bin .neq (.t 27) (.t 29)) 25,or 31 25 30,m 32 31,fn 33 4 4 2 32,dA 34 33 32,fn 35 4 4 3 32,dA 36 35 32,on 37 (.bin .neq (.t 34) (.t 36)) 32,or 38 32 37,m 39 38,fn 40 5 5 2 39,dA 41 40 39,fn 42 5 5 3 39,dA 43 42 39,on 44 (.bin .neq (.t 41) (.t 43)) 39,or 45 39 44,m 46 45,fn 47 6 6 2 46,dA 48 47 46,fn 49 6 6 3 46,dA 50 49 46,on 51 (.bin .neq (.t 48) (.t 50)) 46,or 52 46 51,m 53 52,fn 54 7 7 2 53,dA 55 54 53,fn 56 7 7 3 53,dA 57 56 53,on 58 (.eqv .b true (.t 55) (.t 57)) 53,or 59 53 58,m 60 59,fn 61 8 8 2 60,dA 62 61 60,on 63 (.len (.t 62)) 60,fn 64 8 8 3 60,dA 65 64 60,on 66 (.len (.t 65)) 60,on 67 (.bin .neq (.t 63) (.t 66)) 60,or 68 60 67]
def aen:=[o 4 (.mv bl)]
def aeo:=[aV 5 0]
def aep:=[m 69 5,f 70 8 8 2,l 71 70,o 72 (.len (.t 71)),lt 73 69 72]
def aeq:=[f 76 8 8 2,l 77 76,m 78 5,o 79 (.is 6 (.t 77) (.t 78)),L 80 6 79,f 81 8 8 3,l 82 81,m 83 5,o 84 (.is 6 (.t 82) (.t 83)),L 85 6 84,o 86 (.eqv (.jG 6 (.i .i64)) true (.t 80) (.t 85))]
def WI:=some [[],[0],[],[1,2],[3],[],[5],[],[6,7],[8],[4,9]]
def aer:=[o 4 (.mv bl)]
def aes:=[m 74 5,ad 75 74 1,m 5 75]
def aet:=[o 4 (.mv T)]
def BS:aO:=(s (r ael) (s (s (r aem) (.cond (.t 68) (s (r aen) .ret) .skip)) (s (s (r aeo) (.block 0 (.loop (s (s (r aep) (.cond (.t 73) .skip (.exit 0))) (s (.block 1 (s (.bS WI aeq) (.cond (.t 86) (s (r aer) .ret) .skip))) (r aes)))))) (s (r aet) .ret))))
def LA:List aZ:=[.tmp 4]
theorem Tr:bE Tryz.prog Tryz.f47 BS:=e (by kernel_rfl)
theorem VB:bF Tryz.prog Tryz.f47 LA:=e (by kernel_rfl)
theorem Rt:bC Tryz.prog 47:=e (by kernel_rfl)
def aeu:=[b 1 0,aV 2 0]
def aev:=[L 3 17 1,o 4 (.call 117 [.t 3]),no 5 4]
def aew:=[aV 2 40]
def aex:=[aV 2 0]
def BT:aO:=(s (r aeu) (s (s (r aev) (.cond (.t 5) (s (r aew) .ret) .skip)) (s (r aex) .ret)))
def LB:List aZ:=[.tmp 2]
theorem Ts:bE Tryz.prog Tryz.f62 BT:=e (by kernel_rfl)
theorem VC:bF Tryz.prog Tryz.f62 LB:=e (by kernel_rfl)
theorem Ru:bC Tryz.prog 62:=e (by kernel_rfl)
def HS:=[b 1 0,aV 2 0]
def aey:=[f 7 3 4 1,l 8 7,o 9 (.call 94 [.t 8,(aj 0),(aj 100000)]),m 10 9,cX 11 2 3 1 10,dB 12 11 10,bD 13 (.call 94 [.t 12,(aj 0),(aj 100000)]) 10,and 14 10 13,m 3 14]
def aeJ:=[f 15 0 0 1,L 16 2 15,o 17 (.call 116 [.t 16]),no 18 17,m 19 18,eF 20 3 19,on 21 (.un .not (.t 20)) 19,or 22 19 21,m 23 22,fn 24 1 2 1 23,dA 25 24 23,on 26 (.call 94 [.t 25,(aj 0),(aj 6)]) 23,on 27 (.un .not (.t 26)) 23,or 28 23 27,m 29 28,on 30 (.ld (some 17) (.t 1)) 29,on 31 (.ld (some 17) (.t 1)) 29,on 32 (.call 84 [.t 31]) 29,on 33 (.eqv (.bg [(.bg [(.i .i64),(.i .i64)]),(.i .i64),(.i .i64),(.i .i64),(.i .i64),(.i .i64),(.i .i64),(.i .i64),(.jG 6 (.i .i64)),(.bg [(.i .i64),(.i .i64)])]) true (.t 30) (.t 32)) 29,or 34 29 33]
def WJ:=some [[],[0],[1],[2],[3,2],[4],[5,4],[4,6],[7,4],[8],[9,8],[10,8,8],[11,8],[8,12],[13,11],[14],[14],[16,14,14],[15,17,14],[14,18]]
def aeQ:=[aV 2 40]
def aeR:=[f 35 1 2 1,l 36 35,o 37 (.bin .eql (.t 36) (aj 0))]
def aeS:=[f 38 2 3 1,l 39 38,o 40 (.bin .neq (.t 39) (aj 0)),m 41 40,fn 42 9 15 1 41,on 43 (.ld (some 2) (.t 42)) 41,on 44 (.call 116 [.t 43]) 41,on 45 (.un .not (.t 44)) 41,or 46 41 45,m 47 46,fn 48 9 15 1 47,fn 49 0 0 48 47,dA 50 49 47,fn 51 0 0 1 47,fn 52 0 0 51 47,dA 53 52 47,on 54 (.bin .neq (.t 50) (.t 53)) 47,or 55 47 54,m 56 55,fn 57 9 15 1 56,fn 58 1 1 57 56,dA 59 58 56,fn 60 0 0 1 56,fn 61 1 1 60 56,dA 62 61 56,on 63 (.bin .geq (.t 59) (.t 62)) 56,or 64 56 63]
def aeT:=[aV 2 40]
def aeU:=[aV 2 0]
def aeV:=[f 65 4 5 1,l 66 65,o 67 (.call 94 [.t 66,(aj 1),(aj 9999)]),no 68 67]
def aeW:=[aV 2 40]
def aez:=[f 69 7 8 1,l 70 69,o 71 (.call 94 [.t 70,(aj 1),(aj 99)]),m 4 71]
def aeA:=[f 72 6 7 1,l 73 72,o 74 (.call 94 [.t 73,(aj 1),(aj 9)]),m 5 74]
def aeB:=[o 6 (.mv bl)]
def aeC:=[f 75 1 2 1,l 76 75]
def aeD:=[o 78 (.bin .eql (.t 76) (aj 1)),m 77 78]
def aeE:=[m 79 4,no 80 79,m 81 80,eF 82 5 81,on 83 (.un .not (.t 82)) 81,or 84 81 83,m 85 84,fn 86 5 6 1 85,dA 87 86 85,on 88 (.call 94 [.t 87,(aj 0),(aj 9999)]) 85,on 89 (.un .not (.t 88)) 85,or 90 85 89,m 91 90,fn 92 5 6 1 91,dA 93 92 91,fn 94 4 5 1 91,dA 95 94 91,on 96 (.bin .eql (.t 93) (.t 95)) 91,or 97 91 96,m 6 97]
def aeF:=[o 99 (.bin .eql (.t 76) (aj 2)),m 98 99]
def aeG:=[m 100 5,no 101 100,m 6 101]
def aeH:=[o 103 (.bin .eql (.t 76) (aj 3)),m 102 103]
def aeI:=[o 104 (.bin .eql (.t 76) (aj 5)),m 102 104]
def aeK:=[m 105 4,no 106 105,m 6 106]
def aeL:=[o 108 (.bin .eql (.t 76) (aj 4)),m 107 108]
def aeM:=[f 109 8 9 1,L 110 6 109,o 111 (.call 101 [.t 110]),o 112 (.bin .neq (.t 111) (aj 0)),m 6 112]
def aeN:=[m 113 6]
def aeO:=[aV 2 40]
def aeP:=[aV 2 0]
def BU:aO:=(s (r HS) (s (r aey) (s (s (.bS WJ aeJ) (.cond (.t 34) (s (r aeQ) .ret) .skip)) (s (s (r aeR) (.cond (.t 37) (s (s (r aeS) (.cond (.t 64) (s (r aeT) .ret) .skip)) (s (r aeU) .ret)) .skip)) (s (s (r aeV) (.cond (.t 68) (s (r aeW) .ret) .skip)) (s (r aez) (s (r aeA) (s (r aeB) (s (s (r aeC) (.block 0 (s (r aeD) (.cond (.t 77) (r aeE) (s (r aeF) (.cond (.t 98) (r aeG) (s (s (r aeH) (.cond (.t 102) .skip (r aeI))) (.cond (.t 102) (r aeK) (s (r aeL) (.cond (.t 107) (r aeM) .skip)))))))))) (s (s (r aeN) (.cond (.t 113) (s (r aeO) .ret) .skip)) (s (r aeP) .ret)))))))))))
def LC:List aZ:=[.tmp 2]
theorem Tt:bE Tryz.prog Tryz.f63 BU:=e (by kernel_rfl)
theorem VD:bF Tryz.prog Tryz.f63 LC:=e (by kernel_rfl)
theorem Rv:bC Tryz.prog 63:=e (by kernel_rfl)
def HT:=[aV 2 0]
def HU:=[m 5 0,o 6 (.len (.t 5)),o 7 (.bin .gtr (.t 6) (aj 60))]
def aeX:=[aV 2 41]
def HV:=[m 8 0,o 9 (.len (.t 8)),aV 10 0]
def aeY:=[lt 11 10 9]
def aeZ:=[m 12 10,o 13 (.is 17 (.t 8) (.t 10)),L 14 17 13,o 4 (.alloc (.agg [.agg [.int .i64 0,.int .i64 0],.int .i64 0,.int .i64 0,.int .i64 0,.int .i64 0,.int .i64 0,.int .i64 0,.int .i64 0,.agg [.int .i64 0,.int .i64 0,.int .i64 0,.int .i64 0,.int .i64 0,.int .i64 0],.agg [.int .i64 0,.int .i64 0]])),m 3 12,p (.bg (some 17) (.t 4) (.t 14))]
def ae0:=[L 15 17 4,o 16 (.call 117 [.t 15]),no 17 16,m 18 17,eF 19 3 18,on 20 (.bin .gtr (.t 19) (aj 0)) 18,eF 21 20 18,cq 22 0 21,cq 23 3 21,bD 24 (.bin .sub (.t 23) (aj 1)) 21,bD 25 (.is 17 (.t 22) (.t 24)) 21,cX 26 0 0 25 21,bD 27 (.ld (some 2) (.t 26)) 21,cX 28 0 0 4 21,bD 29 (.ld (some 2) (.t 28)) 21,bD 30 (.call 118 [.t 27,.t 29]) 21,bD 31 (.bin .geq (.t 30) (aj 0)) 21,on 32 (.pick (.t 21) (.t 31) bl) 18,or 33 18 32]
def WK:=some [[],[0],[1],[2,1],[3],[4,3],[5,3,3],[6],[6],[8,6],[7,9,6],[10,6],[11,6],[6],[13,6],[12,14,6,6],[15,6],[6,16,3],[3,17]]
def ae1:=[aV 2 41]
def ae2:=[ad 34 10 1,m 10 34]
def ae3:=[aV 2 0]
def BV:aO:=(s (r HT) (s (s (r HU) (.cond (.t 7) (s (r aeX) .ret) .skip)) (s (s (r HV) (.block 0 (.loop (s (r aeY) (s (.cond (.t 11) .skip (.exit 0)) (s (.block 1 (s (r aeZ) (s (.bS WK ae0) (.cond (.t 33) (s (r ae1) .ret) .skip)))) (r ae2))))))) (s (r ae3) .ret))))
def LD:List aZ:=[.tmp 2]
theorem Tu:bE Tryz.prog Tryz.f64 BV:=e (by kernel_rfl)
theorem VE:bF Tryz.prog Tryz.f64 LD:=e (by kernel_rfl)
theorem Rw:bC Tryz.prog 64:=e (by kernel_rfl)
def HW:=[aV 2 0]
def HX:=[m 4 0,o 5 (.len (.t 4)),o 6 (.bin .gtr (.t 5) (aj 60))]
def ae4:=[aV 2 41]
def HY:=[aV 3 0]
def ae5:=[m 7 3,m 8 0,o 9 (.len (.t 8)),lt 10 7 9]
def ae6:=[m 13 0,m 14 3,o 15 (.is 17 (.t 13) (.t 14)),L 16 17 15,o 17 (.call 63 [.t 16]),o 18 (.bin .neq (.t 17) (aj 0)),m 19 18,eF 20 3 19,on 21 (.bin .gtr (.t 20) (aj 0)) 19,eF 22 21 19,cq 23 0 22,cq 24 3 22,bD 25 (.bin .sub (.t 24) (aj 1)) 22,bD 26 (.is 17 (.t 23) (.t 25)) 22,cX 27 0 0 26 22,bD 28 (.ld (some 2) (.t 27)) 22,cq 29 0 22,cq 30 3 22,bD 31 (.is 17 (.t 29) (.t 30)) 22,cX 32 0 0 31 22,bD 33 (.ld (some 2) (.t 32)) 22,bD 34 (.call 119 [.t 28,.t 33]) 22,bD 35 (.un .not (.t 34)) 22,on 36 (.pick (.t 22) (.t 35) bl) 19,or 37 19 36]
def WL:=some [[],[],[0,1],[2],[3],[4],[5,4],[6],[7,6],[8,6,6],[9],[9],[11,9],[10,12,9],[13,9],[14,9],[9],[9],[16,17,9],[18,9],[19,9],[15,20,9,9],[21,9],[9,22,6],[6,23]]
def ae7:=[aV 2 41]
def ae8:=[m 11 3,ad 12 11 1,m 3 12]
def ae9:=[aV 2 0]
def BW:aO:=(s (r HW) (s (s (r HX) (.cond (.t 6) (s (r ae4) .ret) .skip)) (s (s (r HY) (.block 0 (.loop (s (s (r ae5) (.cond (.t 10) .skip (.exit 0))) (s (.block 1 (s (.bS WL ae6) (.cond (.t 37) (s (r ae7) .ret) .skip))) (r ae8)))))) (s (r ae9) .ret))))
def LF:List aZ:=[.tmp 2]
theorem Tv:bE Tryz.prog Tryz.f65 BW:=e (by kernel_rfl)
theorem VF:bF Tryz.prog Tryz.f65 LF:=e (by kernel_rfl)
theorem Rx:bC Tryz.prog 65:=e (by kernel_rfl)
def HZ:=[b 1 0,aV 2 0]
def H0:=[f 5 0 0 1,L 6 5 5,o 7 (.call 120 [.t 6]),no 8 7,m 9 8,fn 10 1 5 1 9,dA 11 10 9,on 12 (.call 121 [.t 11,(aj 0),(aj 2)]) 9,on 13 (.un .not (.t 12)) 9,or 14 9 13,m 15 14,fn 16 2 6 1 15,dA 17 16 15,on 18 (.len (.t 17)) 15,on 19 (.bin .gtr (.t 18) (aj 40)) 15,or 20 15 19]
def sQ:=[aV 2 13]
def H2:=[f 21 2 6 1,l 22 21,o 23 (.len (.t 22)),aV 24 0]
def H3:=[lt 25 24 23]
def H4:=[m 26 24,o 27 (.is 7 (.t 22) (.t 24)),L 28 7 27,o 4 (.alloc (.agg [.int .i64 0,.agg [.int .i64 0,.int .i64 0,.int .i64 0,.int .i64 0,.int .i64 0,.int .i64 0]])),m 3 26,p (.bg (some 7) (.t 4) (.t 28))]
def H5:=[f 29 0 0 4,l 30 29,o 31 (.call 122 [.t 30]),no 32 31,m 33 32,fn 34 1 1 4 33,on 35 (.ld (some 6) (.t 34)) 33,on 36 (.call 123 [.t 35]) 33,on 37 (.un .not (.t 36)) 33,or 38 33 37,m 39 38,eF 40 3 39,on 41 (.bin .gtr (.t 40) (aj 0)) 39,eF 42 41 39,cX 43 2 6 1 42,dB 44 43 42,cq 45 3 42,bD 46 (.bin .sub (.t 45) (aj 1)) 42,bD 47 (.is 7 (.t 44) (.t 46)) 42,cX 48 0 0 47 42,dB 49 48 42,cX 50 0 0 4 42,dB 51 50 42,bD 52 (.bin .geq (.t 49) (.t 51)) 42,on 53 (.pick (.t 42) (.t 52) bl) 39,or 54 39 53,m 55 54,on 56 (.ld (some 7) (.t 1)) 55,fn 57 2 6 1 55,dA 58 57 55,eF 59 3 55,on 60 (.sl 7 (.t 58) none (some (.t 59)) none) 55,fn 61 1 1 4 55,on 62 (.ld (some 6) (.t 61)) 55,on 63 (.call 124 [.t 56,.t 60,.t 62]) 55,on 64 (.un .not (.t 63)) 55,or 65 55 64]
def WM:=some [[],[0],[1],[2],[3,2],[4],[5,4],[6,4,4],[7,4],[4,8],[9,7],[10],[11,10],[12,10,10],[13],[14,13],[13],[16,13],[15,17,13],[18,13],[19,13],[13],[21,13],[20,22,13],[13,23,10],[10,24],[25,13],[26],[26],[28,26],[26],[29,30,26],[26],[32,26],[27,31,33,26,26],[34,26],[26,35]]
def pD:=[aV 2 13]
def wS:=[ad 66 24 1,m 24 66]
def H6:=[aV 2 0]
def BX:aO:=(s (r HZ) (s (s (r H0) (.cond (.t 20) (s (r sQ) .ret) .skip)) (s (s (r H2) (.block 0 (.loop (s (r H3) (s (.cond (.t 25) .skip (.exit 0)) (s (.block 1 (s (r H4) (s (.bS WM H5) (.cond (.t 65) (s (r pD) .ret) .skip)))) (r wS))))))) (s (r H6) .ret))))
def LG:List aZ:=[.tmp 2]
theorem Tw:bE Tryz.prog Tryz.f66 BX:=e (by kernel_rfl)
theorem VG:bF Tryz.prog Tryz.f66 LG:=e (by kernel_rfl)
theorem Ry:bC Tryz.prog 66:=e (by kernel_rfl)
def afa:=[aV 6 0]
def afb:=[m 10 0,o 11 (.call 64 [.t 10]),m 7 11]
def aff:=[m 12 7,o 13 (.bin .neq (.t 12) (aj 0))]
def afg:=[m 14 7,m 6 14]
def afh:=[m 15 1,o 16 (.len (.t 15)),aV 17 0]
def afi:=[lt 18 17 16]
def afj:=[o 19 (.is 2 (.t 15) (.t 17)),L 20 2 19,o 9 (.alloc (.agg [.int .i64 0,.int .i64 0])),p (.bg (some 2) (.t 9) (.t 20))]
def afk:=[o 21 (.ia 2 1 (.t 9) (aj 0)),l 22 21,o 23 (.ia 2 1 (.t 9) (aj 1)),l 24 23,o 25 (.call 114 [.t 22,(aj 1),.t 24]),no 26 25]
def afl:=[aV 6 1]
def afm:=[ad 27 17 1,m 17 27]
def afc:=[m 28 2,o 29 (.call 125 [.t 28,(.c (.func 126 []))])]
def afd:=[aV 6 6]
def afe:=[aV 6 0]
def BY:aO:=(s (r afa) (s (s (r afb) (s (r aff) (.cond (.t 13) (s (r afg) .ret) .skip))) (s (s (r afh) (.block 0 (.loop (s (r afi) (s (.cond (.t 18) .skip (.exit 0)) (s (.block 1 (s (r afj) (s (r afk) (.cond (.t 26) (s (r afl) .ret) .skip)))) (r afm))))))) (s (s (r afc) (.cond (.t 29) (s (r afd) .ret) .skip)) (s (r afe) .ret)))))
def LH:List aZ:=[.tmp 6]
theorem Tx:bE Tryz.prog Tryz.f67 BY:=e (by kernel_rfl)
theorem VH:bF Tryz.prog Tryz.f67 LH:=e (by kernel_rfl)
theorem Rz:bC Tryz.prog 67:=e (by kernel_rfl)
def afn:=[o 4 (.mv (.c (.nilp)))]
def afo:=[m 8 0,m 9 1,o 10 (.call 88 [.t 8,(aj 100000),.t 9]),m 7 10,o 11 (.ext (.t 7) 0),o 12 (.ext (.t 7) 1),m 5 11,m 6 12]
def afp:=[m 13 5,m 4 13]
def BZ:aO:=(s (r afn) (s (r afo) (s (r afp) .ret)))
def LI:List aZ:=[.tmp 4]
theorem Ty:bE Tryz.prog Tryz.f68 BZ:=e (by kernel_rfl)
theorem VI:bF Tryz.prog Tryz.f68 LI:=e (by kernel_rfl)
theorem RA:bC Tryz.prog 68:=e (by kernel_rfl)
def afq:=[b 2 0,o 4 (.mv (.c (.nils 1)))]
def afr:=[L 8 7 2,m 9 1,o 10 (.nilC (.t 9)),f 11 0 0 10,f 12 8 8 11,l 13 12,o 14 (.call 128 [.t 8,.t 13]),m 7 14,o 15 (.ext (.t 7) 0),o 16 (.ext (.t 7) 1),m 5 15,m 6 16]
def WN:=some [[],[],[1],[2],[3],[4],[0,5],[6],[7],[7],[8,6,0,1,2,3,4,5,6,7,8],[9,10,0,1,2,3,4,5,6,7,8,9,10]]
def afs:=[m 17 5,m 4 17]
def B1:aO:=(s (r afq) (s (.bS WN afr) (s (r afs) .ret)))
def LJ:List aZ:=[.tmp 4]
theorem Tz:bE Tryz.prog Tryz.f69 B1:=e (by kernel_rfl)
theorem VJ:bF Tryz.prog Tryz.f69 LJ:=e (by kernel_rfl)
theorem RB:bC Tryz.prog 69:=e (by kernel_rfl)
def H7:=[o 4 (.mv (.c (.nils 1)))]
def H8:=[o 5 (.mv (.c (.nils 1)))]
def H9:=[m 8 0,o 9 (.nilC (.t 8)),f 10 0 0 9,l 11 10,o 12 (.kl (.t 11))]
def wT:=[o 13 (.jx (.t 12)),o 14 (.ext (.t 13) 0)]
def Ia:=[o 15 (.ent (.t 12)),o 16 (.ext (.t 15) 0),o 17 (.ext (.t 15) 1),m 6 16,m 7 17]
def Ib:=[m 18 1,m 19 7,o 20 (.eL (.t 18) [.t 19])]
def aft:=[m 21 5,m 22 6,o 23 (.bs 1 [.t 22]),o 24 (.cL 3 1 8 (.int .i64 0) (.t 21) (.t 23)),m 5 24]
def afu:=[m 25 5,o 26 (.call 107 [.t 25])]
def afv:=[m 27 5,m 4 27]
def B3:aO:=(s (r H7) (s (r H8) (s (s (r H9) (.block 0 (.loop (s (r wT) (s (.cond (.t 14) .skip (.exit 0)) (.block 1 (s (r Ia) (s (r Ib) (.cond (.t 20) (r aft) .skip))))))))) (s (r afu) (s (r afv) .ret)))))
def LK:List aZ:=[.tmp 4]
theorem TA:bE Tryz.prog Tryz.f72 B3:=e (by kernel_rfl)
theorem VK:bF Tryz.prog Tryz.f72 LK:=e (by kernel_rfl)
theorem RC:bC Tryz.prog 72:=e (by kernel_rfl)
def afw:=[o 3 (.mv bl)]
def afx:=[m 4 0,o 5 (.nilC (.t 4)),f 6 0 0 5,f 7 4 4 6,l 8 7,o 9 (.bin .gtr (.t 8) (aj 0)),m 10 9,bD 11 (.ld (some 7) (.t 1)) 10,cq 12 0 10,bD 13 (.call 69 [.t 11,.t 12]) 10,cq 14 0 10,bD 15 (.nilC (.t 14)) 10,cX 16 0 0 15 10,cX 17 4 4 16 10,dB 18 17 10,bD 19 (.call 74 [.t 13,.t 18]) 10,bD 20 (.un .not (.t 19)) 10,and 21 10 20,m 3 21]
def WO:=some [[],[0],[1],[2],[3],[4],[5],[6],[6],[7,8,6,6],[6],[10,6],[11,6],[12,6],[13,6],[9,14,9,6],[15,6],[6,16],[17,15,0,1,2,3,4,5,6,7,8,9,10,11,12,13,14,15,16,17]]
def B4:aO:=(s (r afw) (s (.bS WO afx) .ret))
def LL:List aZ:=[.tmp 3]
theorem TB:bE Tryz.prog Tryz.f73 B4:=e (by kernel_rfl)
theorem VL:bF Tryz.prog Tryz.f73 LL:=e (by kernel_rfl)
theorem RD:bC Tryz.prog 73:=e (by kernel_rfl)
def afy:=[o 4 (.mv bl)]
def afz:=[m 5 0,m 6 1,o 7 (.call 131 [.t 5,.t 6]),o 8 (.bin .geq (.t 7) (aj 0)),m 4 8]
def B5:aO:=(s (r afy) (s (r afz) .ret))
def LM:List aZ:=[.tmp 4]
theorem TC:bE Tryz.prog Tryz.f74 B5:=e (by kernel_rfl)
theorem VM:bF Tryz.prog Tryz.f74 LM:=e (by kernel_rfl)
theorem RE:bC Tryz.prog 74:=e (by kernel_rfl)
def Ic:=[o 2 (.mv bl)]
def Ie:=[m 3 0,o 4 (.call 94 [.t 3,(aj 0),(aj 100000)]),m 2 4]
def B6:aO:=(s (r Ic) (s (r Ie) .ret))
def LN:List aZ:=[.tmp 2]
theorem TD:bE Tryz.prog Tryz.f75 B6:=e (by kernel_rfl)
theorem VN:bF Tryz.prog Tryz.f75 LN:=e (by kernel_rfl)
theorem RF:bC Tryz.prog 75:=e (by kernel_rfl)
def afA:=[o 6 (.alloc (.agg [.nils 9,.nils 1]))]
def afB:=[m 16 0,m 17 1,o 18 (.call 106 [.t 16,.t 17]),m 7 18]
def afM:=[o 8 (.mv (.c (.nils 1)))]
def afP:=[aV 9 0]
def afQ:=[m 19 9,m 20 0,o 21 (.len (.t 20)),lt 22 19 21]
def afR:=[m 25 7,m 26 9,o 27 (.is 1 (.t 25) (.t 26)),l 28 27,no 29 28,m 30 29,eF 31 0 30,eF 32 9 30,on 33 (.is 17 (.t 31) (.t 32)) 30,fn 34 1 2 33 30,dA 35 34 30,on 36 (.bin .eql (.t 35) (aj 0)) 30,or 37 30 36,m 38 37,eF 39 0 38,eF 40 9 38,on 41 (.is 17 (.t 39) (.t 40)) 38,fn 42 2 3 41 38,dA 43 42 38,eF 44 2 38,on 45 (.bin .gtr (.t 43) (.t 44)) 38,or 46 38 45]
def afS:=[m 47 8,o 48 (.len (.t 47)),m 10 48]
def afT:=[m 49 10,o 50 (.bin .gtr (.t 49) (aj 0)),m 51 50,cq 52 0 51,cq 53 8 51,cq 54 10 51,bD 55 (.bin .sub (.t 54) (aj 1)) 51,bD 56 (.is 1 (.t 53) (.t 55)) 51,dB 57 56 51,bD 58 (.is 17 (.t 52) (.t 57)) 51,cX 59 2 3 58 51,dB 60 59 51,cq 61 0 51,cq 62 9 51,bD 63 (.is 17 (.t 61) (.t 62)) 51,cX 64 2 3 63 51,dB 65 64 51,bD 66 (.bin .gtr (.t 60) (.t 65)) 51,and 67 51 66]
def WR:=some [[],[0],[1],[2],[2],[2],[5,2],[4,6,2],[7,2],[3,8,2],[9,2],[10,2],[2],[2],[12,13,2],[14,2],[15,2],[11,16,2],[2,17]]
def afU:=[m 68 10,o 69 (.bin .sub (.t 68) (aj 1)),m 10 69]
def sR:=[o 70 (.bs0 1),m 71 8,m 72 10,o 73 (.sl 1 (.t 71) none (some (.t 72)) none),o 74 (.cL 3 1 8 (.int .i64 0) (.t 70) (.t 73)),m 75 9,o 76 (.bs 1 [.t 75]),o 77 (.cL 3 1 8 (.int .i64 0) (.t 74) (.t 76)),m 78 8,m 79 10,o 80 (.sl 1 (.t 78) (some (.t 79)) none none),o 81 (.cL 3 1 8 (.int .i64 0) (.t 77) (.t 80)),m 8 81]
def CV:=some [[],[],[],[1,2],[0,3],[],[5],[4,6,4],[],[],[8,9],[7,10,7],[11,11,0,1,2,3,4,5,6,7,8,9,10,11]] -- DRAW BAD
def afC:=[m 23 9,ad 24 23 1,m 9 24]
def afD:=[o 82 (.bld [.nils 9,.nils 1] []),o 11 (.alloc (.agg [.nils 9,.nils 1])),p (.bg (some 2) (.t 11) (.t 82))]
def afE:=[o 12 (.mv (.c (.nils 1)))]
def afF:=[aV 13 0]
def afG:=[m 83 13,m 84 8,o 85 (.len (.t 84)),lt 86 83 85]
def afH:=[f 90 0 0 11,l 91 90,m 92 0,m 93 8,m 94 13,o 95 (.is 1 (.t 93) (.t 94)),l 96 95,o 97 (.is 17 (.t 92) (.t 96)),L 98 17 97,o 99 (.call 132 [.t 91,.t 98]),m 89 99,o 100 (.ext (.t 89) 0),o 101 (.ext (.t 89) 1),m 14 100,m 15 101]
def WQ:=some [[],[0],[],[],[],[3,4],[5],[2,6],[7],[1,8],[9],[10],[10],[11,9,0,1,2,3,4,5,6,7,8,9,10,11],[12,13,0,1,2,3,4,5,6,7,8,9,10,11,12,13]]
def afI:=[m 102 14,f 103 0 0 11,p (.bg none (.t 103) (.t 102))]
def afJ:=[m 104 15,no 105 104]
def afK:=[m 106 12,m 107 8,m 108 13,o 109 (.is 1 (.t 107) (.t 108)),l 110 109,o 111 (.bs 1 [.t 110]),o 112 (.cL 3 1 8 (.int .i64 0) (.t 106) (.t 111)),m 12 112]
def afL:=[m 87 13,ad 88 87 1,m 13 88]
def afN:=[m 113 12,o 114 (.call 97 [.t 113]),f 115 1 1 11,p (.bg none (.t 115) (.t 114))]
def afO:=[L 116 2 11,p (.bg (some 2) (.t 6) (.t 116))]
def B7:aO:=(s (r afA) (s (r afB) (s (r afM) (s (s (r afP) (.block 0 (.loop (s (s (r afQ) (.cond (.t 22) .skip (.exit 0))) (s (.block 1 (s (s (r afR) (.cond (.t 46) (.exit 1) .skip)) (s (r afS) (s (.block 2 (.loop (s (s (.bS WR afT) (.cond (.t 67) .skip (.exit 2))) (.block 3 (r afU))))) (.bS CV sR))))) (r afC)))))) (s (r afD) (s (r afE) (s (s (r afF) (.block 4 (.loop (s (s (r afG) (.cond (.t 86) .skip (.exit 4))) (s (.block 5 (s (.bS WQ afH) (s (r afI) (s (r afJ) (.cond (.t 105) (r afK) .skip))))) (r afL)))))) (s (r afN) (s (r afO) .ret)))))))))
def LO:List aZ:=[.cell 6 (some 2)]
theorem TE:bE Tryz.prog Tryz.f76 B7:=e (by kernel_rfl)
theorem VO:bF Tryz.prog Tryz.f76 LO:=e (by kernel_rfl)
theorem RG:bC Tryz.prog 76:=e (by kernel_rfl)
def afV:=[b 3 0,o 6 (.mv bl)]
def afW:=[m 8 1,o 9 (.ptrE false (.t 8) (.c (.nilp))),m 10 9,eF 11 2 10,on 12 (.ptrE false (.t 11) (.c (.nilp))) 10,or 13 10 12]
def afX:=[m 14 1,m 15 2,o 16 (.ptrE false (.t 14) (.t 15)),m 6 16]
def afY:=[o 7 (.mv (.c (.func 133 [])))]
def afZ:=[m 17 7,m 18 1,o 19 (.eL (.t 17) [.t 18]),m 20 7,m 21 2,o 22 (.eL (.t 20) [.t 21]),o 23 (.eqv (.jG 8 (.i .i64)) false (.t 19) (.t 22)),m 24 23,bD 25 (.ld (some 7) (.t 3)) 24,cq 26 1 24,bD 27 (.call 69 [.t 25,.t 26]) 24,bD 28 (.ld (some 7) (.t 3)) 24,cq 29 2 24,bD 30 (.call 69 [.t 28,.t 29]) 24,bD 31 (.call 134 [.t 27,.t 30]) 24,and 32 24 31,m 6 32]
def WS:=some [[],[],[0,1],[],[],[3,4,2],[2,5],[6,5],[7],[7],[8,9,7,7],[7],[7],[11,12,10,7],[10,13,13,7],[7,14],[15,14,0,1,2,3,4,5,6,7,8,9,10,11,12,13,14,15]]
def sr:aO:=(s (r afV) (s (s (r afW) (.cond (.t 13) (s (r afX) .ret) .skip)) (s (r afY) (s (.bS WS afZ) .ret))))
def tU:List aZ:=[.tmp 6]
theorem vr:bE Tryz.prog Tryz.f77 sr:=e (by kernel_rfl)
theorem vA:bF Tryz.prog Tryz.f77 tU:=e (by kernel_rfl)
theorem vp:bC Tryz.prog 77:=e (by kernel_rfl)
def If:=[o 4 (.mv (.c (.nils 17)))]
def Ig:=[m 5 0,o 6 (.call 136 [.t 5]),m 7 1,m 8 1,ad 9 8 1,o 10 (.call 135 [.t 6,.t 7,.t 9]),m 4 10]
def B8:aO:=(s (r If) (s (r Ig) .ret))
def LP:List aZ:=[.tmp 4]
theorem TF:bE Tryz.prog Tryz.f78 B8:=e (by kernel_rfl)
theorem VP:bF Tryz.prog Tryz.f78 LP:=e (by kernel_rfl)
theorem RH:bC Tryz.prog 78:=e (by kernel_rfl)
def Ih:=[o 0 (.mv (.c (.nils 17)))]
def Ii:=[o 1 (.bld [.agg [.int .i64 0,.int .i64 0],.int .i64 0,.int .i64 0,.int .i64 0,.int .i64 0,.int .i64 0,.int .i64 0,.int .i64 0,.agg [.int .i64 0,.int .i64 0,.int .i64 0,.int .i64 0,.int .i64 0,.int .i64 0],.agg [.int .i64 0,.int .i64 0]] [(1,(aj 1)),(2,(aj 1)),(3,(aj 1)),(4,(aj 10)),(6,(aj 3)),(7,(aj 2))]),o 2 (.bld [.int .i64 0,.int .i64 0] [(1,(aj 1))]),o 3 (.bld [.agg [.int .i64 0,.int .i64 0],.int .i64 0,.int .i64 0,.int .i64 0,.int .i64 0,.int .i64 0,.int .i64 0,.int .i64 0,.agg [.int .i64 0,.int .i64 0,.int .i64 0,.int .i64 0,.int .i64 0,.int .i64 0],.agg [.int .i64 0,.int .i64 0]] [(0,(.t 2)),(1,(aj 1)),(2,(aj 5)),(3,(aj 5)),(4,(aj 11)),(6,(aj 3)),(7,(aj 2)),(5,(aj 10))]),o 4 (.bld [.int .i64 0,.int .i64 0] [(1,(aj 2))]),o 5 (.bld [.agg [.int .i64 0,.int .i64 0],.int .i64 0,.int .i64 0,.int .i64 0,.int .i64 0,.int .i64 0,.int .i64 0,.int .i64 0,.agg [.int .i64 0,.int .i64 0,.int .i64 0,.int .i64 0,.int .i64 0,.int .i64 0],.agg [.int .i64 0,.int .i64 0]] [(0,(.t 4)),(1,(aj 2)),(2,(aj 6)),(3,(aj 6)),(4,(aj 20)),(6,(aj 3))]),o 6 (.bld [.int .i64 0,.int .i64 0] [(1,(aj 3))]),o 7 (.bld [.int .i64 0,.int .i64 0,.int .i64 0,.int .i64 0,.int .i64 0,.int .i64 0] [(0,(aj 31)),(1,(aj 1)),(2,(aj 1)),(3,(aj 1)),(4,(aj 1)),(5,(aj 31))]),o 8 (.bld [.agg [.int .i64 0,.int .i64 0],.int .i64 0,.int .i64 0,.int .i64 0,.int .i64 0,.int .i64 0,.int .i64 0,.int .i64 0,.agg [.int .i64 0,.int .i64 0,.int .i64 0,.int .i64 0,.int .i64 0,.int .i64 0],.agg [.int .i64 0,.int .i64 0]] [(0,(.t 6)),(1,(aj 4)),(2,(aj 6)),(3,(aj 6)),(4,(aj 20)),(8,(.t 7))]),o 9 (.bld [.int .i64 0,.int .i64 0] [(1,(aj 4))]),o 10 (.bld [.agg [.int .i64 0,.int .i64 0],.int .i64 0,.int .i64 0,.int .i64 0,.int .i64 0,.int .i64 0,.int .i64 0,.int .i64 0,.agg [.int .i64 0,.int .i64 0,.int .i64 0,.int .i64 0,.int .i64 0,.int .i64 0],.agg [.int .i64 0,.int .i64 0]] [(0,(.t 9)),(1,(aj 3)),(2,(aj 7)),(3,(aj 7)),(4,(aj 10)),(7,(aj 1))]),o 11 (.bld [.int .i64 0,.int .i64 0] [(1,(aj 5))]),o 12 (.bld [.int .i64 0,.int .i64 0,.int .i64 0,.int .i64 0,.int .i64 0,.int .i64 0] [(0,(aj 24)),(1,(aj 1)),(2,(aj 1)),(3,(aj 1)),(4,(aj 1)),(5,(aj 31))]),o 13 (.bld [.agg [.int .i64 0,.int .i64 0],.int .i64 0,.int .i64 0,.int .i64 0,.int .i64 0,.int .i64 0,.int .i64 0,.int .i64 0,.agg [.int .i64 0,.int .i64 0,.int .i64 0,.int .i64 0,.int .i64 0,.int .i64 0],.agg [.int .i64 0,.int .i64 0]] [(0,(.t 11)),(1,(aj 4)),(2,(aj 6)),(3,(aj 9)),(4,(aj 20)),(8,(.t 12))]),o 14 (.bld [.int .i64 0,.int .i64 0] [(1,(aj 6))]),o 15 (.bld [.agg [.int .i64 0,.int .i64 0],.int .i64 0,.int .i64 0,.int .i64 0,.int .i64 0,.int .i64 0,.int .i64 0,.int .i64 0,.agg [.int .i64 0,.int .i64 0,.int .i64 0,.int .i64 0,.int .i64 0,.int .i64 0],.agg [.int .i64 0,.int .i64 0]] [(0,(.t 14)),(1,(aj 5)),(2,(aj 10)),(3,(aj 10)),(4,(aj 20)),(7,(aj 3))]),o 16 (.bld [.int .i64 0,.int .i64 0] [(1,(aj 7))]),o 17 (.bld [.int .i64 0,.int .i64 0,.int .i64 0,.int .i64 0,.int .i64 0,.int .i64 0] [(0,(aj 1)),(1,(aj 1)),(2,(aj 1)),(3,(aj 1)),(4,(aj 1)),(5,(aj 1))]),o 18 (.bld [.agg [.int .i64 0,.int .i64 0],.int .i64 0,.int .i64 0,.int .i64 0,.int .i64 0,.int .i64 0,.int .i64 0,.int .i64 0,.agg [.int .i64 0,.int .i64 0,.int .i64 0,.int .i64 0,.int .i64 0,.int .i64 0],.agg [.int .i64 0,.int .i64 0]] [(0,(.t 16)),(1,(aj 4)),(2,(aj 8)),(3,(aj 11)),(4,(aj 11)),(8,(.t 17))]),o 19 (.bld [.int .i64 0,.int .i64 0] [(1,(aj 8))]),o 20 (.bld [.agg [.int .i64 0,.int .i64 0],.int .i64 0,.int .i64 0,.int .i64 0,.int .i64 0,.int .i64 0,.int .i64 0,.int .i64 0,.agg [.int .i64 0,.int .i64 0,.int .i64 0,.int .i64 0,.int .i64 0,.int .i64 0],.agg [.int .i64 0,.int .i64 0]] [(0,(.t 19)),(1,(aj 6)),(2,(aj 12)),(3,(aj 12)),(4,(aj 10))]),o 21 (.bld [.int .i64 0,.int .i64 0] [(1,(aj 9))]),o 22 (.bld [.int .i64 0,.int .i64 0] [(1,(aj 5))]),o 23 (.bld [.agg [.int .i64 0,.int .i64 0],.int .i64 0,.int .i64 0,.int .i64 0,.int .i64 0,.int .i64 0,.int .i64 0,.int .i64 0,.agg [.int .i64 0,.int .i64 0,.int .i64 0,.int .i64 0,.int .i64 0,.int .i64 0],.agg [.int .i64 0,.int .i64 0]] [(0,(.t 21)),(1,(aj 0)),(3,(aj 14)),(9,(.t 22))]),o 24 (.bs 17 [.t 1,.t 3,.t 5,.t 8,.t 10,.t 13,.t 15,.t 18,.t 20,.t 23]),m 0 24]
def Ca:aO:=(s (r Ih) (s (r Ii) .ret))
def LR:List aZ:=[.tmp 0]
theorem TH:bE Tryz.prog Tryz.f81 Ca:=e (by kernel_rfl)
theorem VR:bF Tryz.prog Tryz.f81 LR:=e (by kernel_rfl)
theorem RJ:bC Tryz.prog 81:=e (by kernel_rfl)
def Ij:=[o 0 (.alloc (.agg [.agg [.int .i64 0,.int .i64 0,.int .i64 0,.int .i64 0,.int .i64 0],.int .i64 0,.nils 7]))]
def Ik:=[o 1 (.bld [.int .i64 0,.int .i64 0,.int .i64 0,.int .i64 0,.int .i64 0] [(0,(aj 1)),(1,(aj 3)),(2,(aj 4)),(3,(aj 24)),(4,(aj 24))]),o 2 (.bld [.int .i64 0,.agg [.int .i64 0,.int .i64 0,.int .i64 0,.int .i64 0,.int .i64 0,.int .i64 0]] [(0,(aj 1))]),o 3 (.bld [.int .i64 0,.int .i64 0,.int .i64 0,.int .i64 0,.int .i64 0,.int .i64 0] [(0,(aj 2)),(1,(aj 0)),(2,(aj 0)),(3,(aj 0)),(4,(aj 0)),(5,(aj 0))]),o 4 (.bld [.int .i64 0,.agg [.int .i64 0,.int .i64 0,.int .i64 0,.int .i64 0,.int .i64 0,.int .i64 0]] [(0,(aj 2)),(1,(.t 3))]),o 5 (.bld [.int .i64 0,.int .i64 0,.int .i64 0,.int .i64 0,.int .i64 0,.int .i64 0] [(0,(aj 3)),(1,(aj 0)),(2,(aj 0)),(3,(aj 0)),(4,(aj 0)),(5,(aj 2))]),o 6 (.bld [.int .i64 0,.agg [.int .i64 0,.int .i64 0,.int .i64 0,.int .i64 0,.int .i64 0,.int .i64 0]] [(0,(aj 3)),(1,(.t 5))]),o 7 (.bs 7 [.t 2,.t 4,.t 6]),o 8 (.bld [.agg [.int .i64 0,.int .i64 0,.int .i64 0,.int .i64 0,.int .i64 0],.int .i64 0,.nils 7] [(0,(.t 1)),(2,(.t 7))]),p (.bg (some 7) (.t 0) (.t 8))]
def Cb:aO:=(s (r Ij) (s (r Ik) .ret))
def LS:List aZ:=[.cell 0 (some 7)]
theorem TI:bE Tryz.prog Tryz.f82 Cb:=e (by kernel_rfl)
theorem VS:bF Tryz.prog Tryz.f82 LS:=e (by kernel_rfl)
theorem RK:bC Tryz.prog 82:=e (by kernel_rfl)
def af0:=[b 1 0,o 2 (.alloc (.agg [.agg [.int .i64 0,.int .i64 0],.int .i64 0,.int .i64 0,.int .i64 0,.int .i64 0,.int .i64 0,.int .i64 0,.int .i64 0,.agg [.int .i64 0,.int .i64 0,.int .i64 0,.int .i64 0,.int .i64 0,.int .i64 0],.agg [.int .i64 0,.int .i64 0]]))]
def af1:=[f 4 0 0 1,L 5 2 4,f 6 1 2 1,l 7 6,f 8 2 3 1,l 9 8,f 10 3 4 1,l 11 10,o 12 (.bld [.agg [.int .i64 0,.int .i64 0],.int .i64 0,.int .i64 0,.int .i64 0,.int .i64 0,.int .i64 0,.int .i64 0,.int .i64 0,.agg [.int .i64 0,.int .i64 0,.int .i64 0,.int .i64 0,.int .i64 0,.int .i64 0],.agg [.int .i64 0,.int .i64 0]] [(0,(.t 5)),(1,(.t 7)),(2,(.t 9)),(3,(.t 11))]),o 3 (.alloc (.agg [.agg [.int .i64 0,.int .i64 0],.int .i64 0,.int .i64 0,.int .i64 0,.int .i64 0,.int .i64 0,.int .i64 0,.int .i64 0,.agg [.int .i64 0,.int .i64 0,.int .i64 0,.int .i64 0,.int .i64 0,.int .i64 0],.agg [.int .i64 0,.int .i64 0]])),p (.bg (some 17) (.t 3) (.t 12))]
def agb:=[f 13 1 2 1,l 14 13,o 15 (.bin .eql (.t 14) (aj 0))]
def agc:=[f 16 9 15 1,L 17 2 16,f 18 9 15 3,p (.bg (some 2) (.t 18) (.t 17))]
def agd:=[L 19 17 3,p (.bg (some 17) (.t 2) (.t 19))]
def age:=[f 20 4 5 1,l 21 20,f 22 4 5 3,p (.bg none (.t 22) (.t 21))]
def agf:=[f 23 1 2 1,l 24 23]
def agh:=[o 26 (.bin .eql (.t 24) (aj 1)),m 25 26]
def agi:=[f 27 6 7 1,l 28 27,f 29 6 7 3,p (.bg none (.t 29) (.t 28))]
def agj:=[f 30 7 8 1,l 31 30,f 32 7 8 3,p (.bg none (.t 32) (.t 31))]
def af2:=[f 33 5 6 1,l 34 33,f 35 5 6 3,p (.bg none (.t 35) (.t 34))]
def af3:=[o 37 (.bin .eql (.t 24) (aj 2)),m 36 37]
def af4:=[f 38 6 7 1,l 39 38,f 40 6 7 3,p (.bg none (.t 40) (.t 39))]
def af5:=[o 42 (.bin .eql (.t 24) (aj 3)),m 41 42]
def af6:=[o 43 (.bin .eql (.t 24) (aj 5)),m 41 43]
def af7:=[f 44 7 8 1,l 45 44,f 46 7 8 3,p (.bg none (.t 46) (.t 45))]
def af8:=[o 48 (.bin .eql (.t 24) (aj 4)),m 47 48]
def af9:=[f 49 8 9 1,L 50 6 49,f 51 8 9 3,p (.bg (some 6) (.t 51) (.t 50))]
def aga:=[L 52 17 3,p (.bg (some 17) (.t 2) (.t 52))]
def Cc:aO:=(s (r af0) (s (r af1) (s (s (r agb) (.cond (.t 15) (s (r agc) (s (r agd) .ret)) .skip)) (s (r age) (s (s (r agf) (.block 0 (s (r agh) (.cond (.t 25) (s (r agi) (s (r agj) (r af2))) (s (r af3) (.cond (.t 36) (r af4) (s (s (r af5) (.cond (.t 41) .skip (r af6))) (.cond (.t 41) (r af7) (s (r af8) (.cond (.t 47) (r af9) .skip)))))))))) (s (r aga) .ret))))))
def LU:List aZ:=[.cell 2 (some 17)]
theorem TJ:bE Tryz.prog Tryz.f84 Cc:=e (by kernel_rfl)
theorem VT:bF Tryz.prog Tryz.f84 LU:=e (by kernel_rfl)
theorem RL:bC Tryz.prog 84:=e (by kernel_rfl)
def Il:=[b 3 0,b 4 1,o 6 (.mv (.c (.nilp))),o 7 (.mv (.c (.nils 1)))]
def Im:=[o 8 (.alloc (.nils 1)),o 9 (.mv (.c (.nils 1)))]
def Is:=[l 15 3,m 16 2,o 17 (.call 105 [.t 15,.t 16])]
def agk:=[m 10 18]
def agl:=[l 19 3,m 20 10,o 21 (.is 17 (.t 19) (.t 20)),f 22 1 2 21,l 23 22,o 24 (.bin .neq (.t 23) (aj 0)),m 25 24,dB 26 3 25,cq 27 10 25,bD 28 (.is 17 (.t 26) (.t 27)) 25,cX 29 2 3 28 25,dB 30 29 25,dB 31 4 25,bD 32 (.bin .leq (.t 30) (.t 31)) 25,and 33 25 32]
def WT:=some [[],[],[0,1],[2],[3],[4],[5],[6],[6],[7,8,6],[9,6],[10,6],[6],[11,12,6],[6,13]]
def agm:=[l 34 8,m 35 10,o 36 (.bs 1 [.t 35]),o 37 (.cL 3 1 8 (.int .i64 0) (.t 34) (.t 36)),p (.bg none (.t 8) (.t 37))]
def wV:=[l 38 8,o 39 (.mk 138 [.t 3]),o 40 (.call 137 [.t 38,.t 39])]
def wW:=[o 41 (.jO),o 42 (.bld [.raw (.map none)] [(0,(.t 41))]),b 43 42,m 11 43]
def wX:=[o 44 (.call 139 []),m 12 44]
def wY:=[l 45 8,o 46 (.len (.t 45)),aV 47 0]
def sS:=[lt 48 47 46]
def wU:=[o 49 (.is 1 (.t 45) (.t 47)),l 50 49,m 14 50]
def sT:=[m 51 12,l 52 3,m 53 14,o 54 (.is 17 (.t 52) (.t 53)),f 55 1 2 54,l 56 55,o 57 (.lk (.i .i64) (.de) false (.t 51) (.t 56)),m 58 11,l 59 3,m 60 14,o 61 (.is 17 (.t 59) (.t 60)),L 62 17 61,o 63 (.eL (.t 57) [.t 58,.t 62]),no 64 63]
def CW:=some [[],[],[],[1,2],[3],[4],[0,5],[],[],[],[8,9],[10],[6,7,11],[12]]
def Io:=[m 65 9,m 66 14,o 67 (.bs 1 [.t 66]),o 68 (.cL 3 1 8 (.int .i64 0) (.t 65) (.t 67)),m 9 68]
def Ip:=[ad 69 47 1,m 47 69]
def Iq:=[m 70 9,o 71 (.call 107 [.t 70])]
def Ir:=[m 72 11,m 73 9,m 6 72,m 7 73]
def Cd:aO:=(s (r Il) (s (r Im) (s (s (r Is) (.block 0 (.jU (.t 17) [18] (r agk) (.block 1 (s (.bS WT agl) (.cond (.t 33) (r agm) .skip)))))) (s (r wV) (s (r wW) (s (r wX) (s (s (r wY) (.block 2 (.loop (s (r sS) (s (.cond (.t 48) .skip (.exit 2)) (s (.block 3 (s (r wU) (s (.bS CW sT) (.cond (.t 64) (r Io) .skip)))) (r Ip))))))) (s (r Iq) (s (r Ir) .ret)))))))))
def LV:List aZ:=[.tmp 6,.tmp 7]
theorem TK:bE Tryz.prog Tryz.f88 Cd:=e (by kernel_rfl)
theorem VU:bF Tryz.prog Tryz.f88 LV:=e (by kernel_rfl)
theorem RM:bC Tryz.prog 88:=e (by kernel_rfl)
def agn:=[o 2 (.mv bl)]
def ago:=[m 3 0,o 4 (.call 90 [.t 3]),no 5 4,m 2 5]
def Ce:aO:=(s (r agn) (s (r ago) .ret))
def LW:List aZ:=[.tmp 2]
theorem TL:bE Tryz.prog Tryz.f89 Ce:=e (by kernel_rfl)
theorem VV:bF Tryz.prog Tryz.f89 LW:=e (by kernel_rfl)
theorem RN:bC Tryz.prog 89:=e (by kernel_rfl)
def agz:=[o 2 (.mv bl)]
def agA:=[m 3 0,o 4 (.nilC (.t 3)),f 5 0 0 4,f 6 6 6 5,l 7 6,o 8 (.bin .geq (.t 7) (aj 0)),m 2 8]
def Cf:aO:=(s (r agz) (s (r agA) .ret))
def LX:List aZ:=[.tmp 2]
theorem TM:bE Tryz.prog Tryz.f90 Cf:=e (by kernel_rfl)
theorem VW:bF Tryz.prog Tryz.f90 LX:=e (by kernel_rfl)
theorem RO:bC Tryz.prog 90:=e (by kernel_rfl)
def agB:=[o 4 (.mv bl)]
def agC:=[m 5 0,o 6 (.call 90 [.t 5]),no 7 6,m 8 7,cq 9 0 8,bD 10 (.nilC (.t 9)) 8,cX 11 0 0 10 8,cX 12 3 3 11 8,dB 13 12 8,dB 14 1 8,bD 15 (.bin .eql (.t 13) (.t 14)) 8,and 16 8 15,m 17 16,cq 18 0 17,bD 19 (.nilC (.t 18)) 17,cX 20 0 0 19 17,cX 21 1 1 20 17,dB 22 21 17,dB 23 2 17,bD 24 (.bin .eql (.t 22) (.t 23)) 17,and 25 17 24,m 4 25]
def WU:=some [[],[0],[1],[2,1],[3],[4,3],[5,3],[6,3],[7,3],[3],[8,9,3],[3,10],[11,3],[12],[13,12],[14,12],[15,12],[16,12],[12],[17,18,12],[12,19],[20,12,0,1,2,3,4,5,6,7,8,9,10,11,12,13,14,15,16,17,18,19,20]]
def Cg:aO:=(s (r agB) (s (.bS WU agC) .ret))
def LY:List aZ:=[.tmp 4]
theorem TN:bE Tryz.prog Tryz.f91 Cg:=e (by kernel_rfl)
theorem VX:bF Tryz.prog Tryz.f91 LY:=e (by kernel_rfl)
theorem RP:bC Tryz.prog 91:=e (by kernel_rfl)
def agD:=[aV 6 0]
def agE:=[m 7 0,o 8 (.call 65 [.t 7]),o 9 (.bin .neq (.t 8) (aj 0))]
def agF:=[aV 6 41]
def agG:=[m 10 1,o 11 (.call 94 [.t 10,(aj 1),(aj 9999)]),no 12 11]
def agH:=[aV 6 1]
def agI:=[m 13 2,o 14 (.call 75 [.t 13]),no 15 14]
def agJ:=[aV 6 6]
def agK:=[aV 6 0]
def Ch:aO:=(s (r agD) (s (s (r agE) (.cond (.t 9) (s (r agF) .ret) .skip)) (s (s (r agG) (.cond (.t 12) (s (r agH) .ret) .skip)) (s (s (r agI) (.cond (.t 15) (s (r agJ) .ret) .skip)) (s (r agK) .ret)))))
def LZ:List aZ:=[.tmp 6]
theorem TO:bE Tryz.prog Tryz.f92 Ch:=e (by kernel_rfl)
theorem VY:bF Tryz.prog Tryz.f92 LZ:=e (by kernel_rfl)
theorem RQ:bC Tryz.prog 92:=e (by kernel_rfl)
def agL:=[aV 4 0]
def agM:=[aV 5 0]
def agN:=[m 6 5,m 7 0,o 8 (.len (.t 7)),lt 9 6 8]
def agO:=[m 12 0,m 13 5,o 14 (.is 9 (.t 12) (.t 13)),f 15 0 0 14,l 16 15,m 17 1,o 18 (.bin .eql (.t 16) (.t 17))]
def agP:=[m 19 5,m 4 19]
def agQ:=[m 10 5,ad 11 10 1,m 5 11]
def agR:=[aV 4 (-1)]
def Ci:aO:=(s (r agL) (s (s (r agM) (.block 0 (.loop (s (s (r agN) (.cond (.t 9) .skip (.exit 0))) (s (.block 1 (s (r agO) (.cond (.t 18) (s (r agP) .ret) .skip))) (r agQ)))))) (s (r agR) .ret)))
def L0:List aZ:=[.tmp 4]
theorem TP:bE Tryz.prog Tryz.f93 Ci:=e (by kernel_rfl)
theorem VZ:bF Tryz.prog Tryz.f93 L0:=e (by kernel_rfl)
theorem RR:bC Tryz.prog 93:=e (by kernel_rfl)
def It:=[o 6 (.mv bl)]
def Iu:=[m 7 1,m 8 0,o 9 (.bin .leq (.t 7) (.t 8)),m 10 9,cq 11 0 10,cq 12 2 10,bD 13 (.bin .leq (.t 11) (.t 12)) 10,and 14 10 13,m 6 14]
def Cj:aO:=(s (r It) (s (r Iu) .ret))
def L1:List aZ:=[.tmp 6]
theorem TQ:bE Tryz.prog Tryz.f94 Cj:=e (by kernel_rfl)
theorem V0:bF Tryz.prog Tryz.f94 L1:=e (by kernel_rfl)
theorem RS:bC Tryz.prog 94:=e (by kernel_rfl)
def agS:=[o 2 (.mv (.c (.nils 1)))]
def agT:=[o 3 (.mv (.c (.nils 1)))]
def agU:=[aV 4 0]
def agV:=[m 5 4,m 6 0,o 7 (.len (.t 6)),lt 8 5 7]
def agW:=[m 11 3,m 12 0,m 13 4,o 14 (.is 1 (.t 12) (.t 13)),l 15 14,o 16 (.call 140 [.t 11,.t 15]),m 3 16]
def agX:=[m 9 4,ad 10 9 1,m 4 10]
def agY:=[m 17 3,m 2 17]
def Ck:aO:=(s (r agS) (s (r agT) (s (s (r agU) (.block 0 (.loop (s (s (r agV) (.cond (.t 8) .skip (.exit 0))) (s (.block 1 (r agW)) (r agX)))))) (s (r agY) .ret))))
def L2:List aZ:=[.tmp 2]
theorem TR:bE Tryz.prog Tryz.f97 Ck:=e (by kernel_rfl)
theorem V1:bF Tryz.prog Tryz.f97 L2:=e (by kernel_rfl)
theorem RT:bC Tryz.prog 97:=e (by kernel_rfl)
def Iv:=[b 1 0,aV 2 0]
def Iw:=[aV 3 0]
def Iy:=[m 4 3,o 5 (.bin .lss (.t 4) (aj 5))]
def Iz:=[m 8 3,o 9 (.ia 5 1 (.t 1) (.t 8)),l 10 9,o 11 (.call 94 [.t 10,(aj 0),(aj 31)]),no 12 11,m 13 12,eF 14 3 13,on 15 (.ia 5 1 (.t 1) (.t 14)) 13,dA 16 15 13,eF 17 3 13,on 18 (.bin .shl (aj 1) (.t 17)) 13,on 19 (.bin .and (.t 16) (.t 18)) 13,on 20 (.bin .eql (.t 19) (aj 0)) 13,or 21 13 20]
def WV:=some [[],[0],[1],[2],[3],[4,3],[5],[6,5],[7,5],[5],[9,5],[8,10,5],[11,5],[5,12]]
def wZ:=[aV 2 11]
def IA:=[m 6 3,ad 7 6 1,m 3 7]
def IB:=[aV 2 0]
def Cl:aO:=(s (r Iv) (s (s (r Iw) (.block 0 (.loop (s (s (r Iy) (.cond (.t 5) .skip (.exit 0))) (s (.block 1 (s (.bS WV Iz) (.cond (.t 21) (s (r wZ) .ret) .skip))) (r IA)))))) (s (r IB) .ret)))
def L3:List aZ:=[.tmp 2]
theorem TS:bE Tryz.prog Tryz.f99 Cl:=e (by kernel_rfl)
theorem V2:bF Tryz.prog Tryz.f99 L3:=e (by kernel_rfl)
theorem RU:bC Tryz.prog 99:=e (by kernel_rfl)
def DL:=[b 1 0,aV 2 0]
def DM:=[aV 3 0]
def DN:=[m 4 3,o 5 (.bin .lss (.t 4) (aj 6))]
def DO:=[m 8 3,o 9 (.ia 6 1 (.t 1) (.t 8)),l 10 9,o 11 (.call 94 [.t 10,(aj 0),(aj 4)]),no 12 11]
def DP:=[aV 2 10]
def DQ:=[m 6 3,ad 7 6 1,m 3 7]
def DR:=[aV 2 0]
def An:aO:=(s (r DL) (s (s (r DM) (.block 0 (.loop (s (s (r DN) (.cond (.t 5) .skip (.exit 0))) (s (.block 1 (s (r DO) (.cond (.t 12) (s (r DP) .ret) .skip))) (r DQ)))))) (s (r DR) .ret)))
def Kb:List aZ:=[.tmp 2]
theorem RZ:bE Tryz.prog Tryz.f100 An:=e (by kernel_rfl)
theorem Uc:bF Tryz.prog Tryz.f100 Kb:=e (by kernel_rfl)
theorem P5:bC Tryz.prog 100:=e (by kernel_rfl)
def DS:=[b 1 0,aV 2 0]
def DT:=[aV 3 0]
def DU:=[m 4 3,o 5 (.bin .lss (.t 4) (aj 6))]
def DV:=[m 8 3,o 9 (.ia 6 1 (.t 1) (.t 8)),l 10 9,o 11 (.call 94 [.t 10,(aj 1),(aj 31)]),no 12 11]
def DW:=[aV 2 12]
def DX:=[m 6 3,ad 7 6 1,m 3 7]
def DY:=[aV 2 0]
def Ao:aO:=(s (r DS) (s (s (r DT) (.block 0 (.loop (s (s (r DU) (.cond (.t 5) .skip (.exit 0))) (s (.block 1 (s (r DV) (.cond (.t 12) (s (r DW) .ret) .skip))) (r DX)))))) (s (r DY) .ret)))
def Kc:List aZ:=[.tmp 2]
theorem R0:bE Tryz.prog Tryz.f101 Ao:=e (by kernel_rfl)
theorem Ud:bF Tryz.prog Tryz.f101 Kc:=e (by kernel_rfl)
theorem P6:bC Tryz.prog 101:=e (by kernel_rfl)
def DZ:=[o 2 (.mv (.c (.nils 1)))]
def D4:=[m 3 0,o 4 (.call 144 [(.c (.nils 1)),.t 3]),m 2 4]
def Ap:aO:=(s (r DZ) (s (r D4) .ret))
def Kd:List aZ:=[.tmp 2]
theorem R1:bE Tryz.prog Tryz.f104 Ap:=e (by kernel_rfl)
theorem Ue:bF Tryz.prog Tryz.f104 Kd:=e (by kernel_rfl)
theorem P7:bC Tryz.prog 104:=e (by kernel_rfl)
def D5:=[b 2 0,b 3 1,o 4 (.mv (.c (.de)))]
def D6:=[o 9 (.jO),o 5 (.alloc (.raw (.map none))),p (.bg none (.t 5) (.t 9))]
def D7:=[l 10 2,o 11 (.len (.t 10)),o 12 (.jP 4 1 (.bool false) (.t 11)),o 6 (.alloc (.nils 1)),p (.bg none (.t 6) (.t 12))]
def D8:=[l 13 2,o 14 (.call 145 [.t 13])]
def X9:=[m 7 15]
def Ya:=[o 8 (.alloc (.agg [.agg [.int .i64 0,.int .i64 0],.int .i64 0,.int .i64 0,.int .i64 0,.int .i64 0,.int .i64 0,.int .i64 0,.int .i64 0,.agg [.int .i64 0,.int .i64 0,.int .i64 0,.int .i64 0,.int .i64 0,.int .i64 0],.agg [.int .i64 0,.int .i64 0]])),p (.bg (some 17) (.t 8) (.t 16))]
def Yb:=[l 17 6,m 18 7,f 19 3 4 8,l 20 19,l 21 3,o 22 (.bin .leq (.t 20) (.t 21)),m 23 22,dB 24 5 23,cX 25 0 0 8 23,bD 26 (.ld (some 2) (.t 25)) 23,bD 27 (.lk (.bg [(.i .i64),(.i .i64)]) (.bool false) false (.t 24) (.t 26)) 23,bD 28 (.un .not (.t 27)) 23,and 29 23 28,o 30 (.is 1 (.t 17) (.t 18)),p (.bg none (.t 30) (.t 29))]
def V4:=some [[],[],[],[2],[],[3,4],[5],[6],[6],[8,6],[7,9,6],[10,6],[6,11],[0,1,0,1,2,3,4,5,6,7,8,9,10,11,12],[13,12,6,0,1,2,3,4,5,6,7,8,9,10,11,12]]
def Yc:=[l 31 6,m 32 7,o 33 (.is 1 (.t 31) (.t 32)),l 34 33,m 35 34,cX 36 1 2 8 35,dB 37 36 35,bD 38 (.bin .eql (.t 37) (aj 0)) 35,and 39 35 38]
def Yd:=[l 40 5,f 41 9 15 8,L 42 2 41,p (.gK (.bg [(.i .i64),(.i .i64)]) (.t 40) (.t 42) T)]
def Ye:=[o 43 (.mk 146 [.t 2,.t 6]),m 4 43]
def Aq:aO:=(s (r D5) (s (r D6) (s (r D7) (s (s (r D8) (.block 0 (.jU (.t 14) [15,16] (s (r X9) (r Ya)) (.block 1 (s (.bS V4 Yb) (s (r Yc) (.cond (.t 39) (r Yd) .skip))))))) (s (r Ye) .ret)))))
def Ke:List aZ:=[.tmp 4]
theorem R2:bE Tryz.prog Tryz.f105 Aq:=e (by kernel_rfl)
theorem Uf:bF Tryz.prog Tryz.f105 Ke:=e (by kernel_rfl)
theorem P8:bC Tryz.prog 105:=e (by kernel_rfl)
def D9:=[o 4 (.mv (.c (.nils 1)))]
def Ea:=[m 8 0,o 9 (.len (.t 8)),o 10 (.jP 4 1 (.bool false) (.t 9)),m 5 10]
def Eb:=[m 11 0,o 12 (.len (.t 11)),o 13 (.bin .sub (.t 12) (aj 1)),m 6 13]
def Yh:=[m 14 6,o 15 (.bin .geq (.t 14) (aj 0))]
def Yi:=[m 18 5,m 19 6,m 20 0,m 21 6,o 22 (.is 17 (.t 20) (.t 21)),f 23 3 4 22,l 24 23,m 25 1,o 26 (.bin .leq (.t 24) (.t 25)),o 27 (.is 1 (.t 18) (.t 19)),p (.bg none (.t 27) (.t 26))]
def Yj:=[m 28 6,ad 29 28 1,m 7 29]
def Yk:=[m 30 7,m 31 0,o 32 (.len (.t 31)),lt 33 30 32]
def Yl:=[m 36 5,m 37 7,o 38 (.is 1 (.t 36) (.t 37)),l 39 38,m 40 39,cq 41 0 40,cq 42 7 40,bD 43 (.is 17 (.t 41) (.t 42)) 40,cX 44 1 2 43 40,dB 45 44 40,bD 46 (.bin .eql (.t 45) (aj 0)) 40,and 47 40 46,m 48 47,cq 49 0 48,cq 50 7 48,bD 51 (.is 17 (.t 49) (.t 50)) 48,cX 52 9 15 51 48,bD 53 (.ld (some 2) (.t 52)) 48,cq 54 0 48,cq 55 6 48,bD 56 (.is 17 (.t 54) (.t 55)) 48,cX 57 0 0 56 48,bD 58 (.ld (some 2) (.t 57)) 48,bD 59 (.eqv (.bg [(.i .i64),(.i .i64)]) false (.t 53) (.t 58)) 48,and 60 48 59]
def V5:=some [[],[],[0,1],[2],[3],[4],[4],[5,6,4],[7,4],[8,4],[9,4],[4,10],[11,4],[12],[12],[13,14,12],[15,12],[16,12],[12],[12],[18,19,12],[20,12],[21,12],[17,22,12],[12,23]]
def Ym:=[m 61 5,m 62 6,o 63 (.is 1 (.t 61) (.t 62)),p (.bg none (.t 63) bl)]
def Yn:=[m 34 7,ad 35 34 1,m 7 35]
def Yf:=[m 16 6,o 17 (.bin .sub (.t 16) (aj 1)),m 6 17]
def Yg:=[m 64 5,m 4 64]
def Ar:aO:=(s (r D9) (s (r Ea) (s (s (r Eb) (.block 0 (.loop (s (s (r Yh) (.cond (.t 15) .skip (.exit 0))) (s (.block 1 (s (r Yi) (s (r Yj) (.block 2 (.loop (s (s (r Yk) (.cond (.t 33) .skip (.exit 2))) (s (.block 3 (s (.bS V5 Yl) (.cond (.t 60) (r Ym) .skip))) (r Yn)))))))) (r Yf)))))) (s (r Yg) .ret))))
def Kf:List aZ:=[.tmp 4]
theorem R3:bE Tryz.prog Tryz.f106 Ar:=e (by kernel_rfl)
theorem Ug:bF Tryz.prog Tryz.f106 Kf:=e (by kernel_rfl)
theorem P9:bC Tryz.prog 106:=e (by kernel_rfl)
theorem Cm:bC Tryz.prog 107:=e (by kernel_rfl)
end Go.Proofs.YtcldiigclhgafaaGreat
namespace Go.Abs
open Go Go.RowKit
def pn(on:List (List Nat)):List Nat:=on.foldl (fun acc ks=>acc++[nN acc ks]) []
def vD(d:Option (List (List Nat)))(gs:List az):Bool:=match d with
 |none=>true
 |some on=>sB on gs (pn on)
section
variable {c:cJ} {Q:Exit→ab→Prop} {A:ab} {d:Option (List (List Nat))} {on:List (List Nat)} {gs:List az}
theorem J.bV(hd:vD d gs=true)(h:∀ K:ab→Prop,(∀ B,Q .normal B→K B)→bj c.P c.Y d.isSome K (ay gs A)):J c (.bS d gs) Q A:=by
 cases d with
 |none=>exact J.bS (cl:=[]) rfl h
 |some on=>exact J.bS (cl:=pn on) hd h
theorem J.au{y:aO}(hd:vD d gs=true)(h:∀ K:ab→Prop,(∀ B,J c y Q B→K B)→bj c.P c.Y d.isSome K (ay gs A)):J c (.seq (.bS d gs) y) Q A :=
 J.seq (J.bV hd h)
theorem J.rA(hs:List FuncId)(L:ez)(σ:List Nat)(hd:tP hs L on gs (pn on) σ=true)(hi:ew L A)(h:∀ K:ab→Prop,(∀ B,Q .normal B→K B)→cd c.P hs K (ay (lT σ gs) A)):J c (.bS (some on) gs) Q A :=
 J.akK hs L (pn on) σ hd hi h
theorem J.akJ(hs:List FuncId)(L:ez)(σ:List Nat)(hd:tQ hs L on gs (pn on) σ=true)(hi:ew L A)(h:∀ K:ab→Prop,(∀ B,Q .normal B→K B)→cd c.P hs K (ay (lT σ gs) A)):J c (.bS (some on) gs) Q A :=
 J.akL hs L (pn on) σ hd hi h
def gD(c:cJ):aO→(Exit→ab→Prop)→ab→Prop
 | .seq x y,Q,A=>gD c x (aF (fun B=>J c y Q B) Q) A
 | .block id x,Q,A=>gD c x (b8 id Q) A
 | .skip,Q,A=>Q .normal A
 | .exit id,Q,A=>Q (.exit id) A
 | .ret,Q,A=>Q .ret A
 | .cond b x y,Q,A=>ak (ae A b) (J c x Q A) (J c y Q A)
 |x,Q,A=>J c x Q A
def ah7:aO→Bool
 | .seq _ _ | .block _ _ | .skip | .exit _ | .ret | .cond _ _ _=>true
 |_=>false
theorem gD.u9:∀ (x:aO) {Q:Exit→ab→Prop} {A:ab},gD c x Q A→J c x Q A
 | .seq x y,_,_,h=>J.seq (gD.u9 x h)
 | .block id x,_,_,h=>J.block (gD.u9 x h)
 | .skip,_,_,h=>J.skip h
 | .exit _,_,_,h=>J.exit h
 | .ret,_,_,h=>J.ret h
 | .cond _ _ _,_,_,h=>J.bW h
 | .bS _ _,_,_,h | .loop _,_,_,h | .scope _,_,_,h | .label,_,_,h | .jU _ _ _ _,_,_,h=>h
theorem J.of{x:aO}(_:ah7 x=true)(h:gD c x Q A):J c x Q A:=gD.u9 x h
theorem aH :
  (∀ c x y Q A,gD c (.seq x y) Q A=gD c x (aF (fun B=>J c y Q B) Q) A)∧(∀ c id x Q A,gD c (.block id x) Q A=gD c x (b8 id Q) A)∧(∀ c Q A,gD c .skip Q A=Q .normal A)∧(∀ c id Q A,gD c (.exit id) Q A=Q (.exit id) A)∧(∀ c Q A,gD c .ret Q A=Q .ret A) ∧
  (∀ c b x y Q A,gD c (.cond b x y) Q A=ak (ae A b) (J c x Q A) (J c y Q A))∧(∀ c d gs Q A,gD c (.bS d gs) Q A=J c (.bS d gs) Q A)∧(∀ c x Q A,gD c (.loop x) Q A=J c (.loop x) Q A)∧(∀ c f ps x y Q A,gD c (.jU f ps x y) Q A=J c (.jU f ps x y) Q A) ∧
  (∀ k Q A,aF k Q .normal A=k A)∧(∀ k Q A,aF k Q .ret A=Q .ret A)∧(∀ k Q A i,aF k Q (.exit i) A=Q (.exit i) A)∧(∀ i Q A,b8 i Q .normal A=Q .normal A)∧(∀ i Q A,b8 i Q .ret A=Q .ret A)∧(∀ i Q A j,b8 i Q (.exit j) A=if j=i then Q .normal A else Q (.exit j) A) ∧
  (∀ p q,ak (.bool true) p q=p)∧(∀ p q,ak (.bool false) p q=q)∧(type_of% @xC) :=
 ⟨fun _ _ _ _ _=>rfl,fun _ _ _ _ _=>rfl,fun _ _ _=>rfl,fun _ _ _ _=>rfl,fun _ _ _=>rfl,fun _ _ _ _ _ _=>rfl,fun _ _ _ _ _=>rfl,fun _ _ _ _=>rfl,fun _ _ _ _ _ _ _=>rfl,fun _ _ _=>rfl,fun _ _ _=>rfl,fun _ _ _ _=>rfl,fun _ _ _=>rfl,fun _ _ _=>rfl,fun _ _ _ _=>rfl,
  fun p q=>by simp[ak],fun p q=>by simp[ak],xC⟩
theorem ak.aE{t:Bool}{p q:Prop}(h1:t=true→p)(h2:t=false→q):ak (.bool t) p q:=⟨h1,h2⟩
theorem J.aG{g:az}{r:List az}(hd:vD d gs=true)(e:gs=g::r)(h:∀ K:ab→Prop,(∀ B,Q .normal B→K B)→bj c.P c.Y d.isSome K (ay (g::r) A)):J c (.bS d gs) Q A :=
 J.bV hd (e▸h)
theorem bj.aw(L:List Nat){P:Program}{Y:Value→List I→List (Nat×ah)→cN→Prop}{dr:Bool}{x:aO}{K:ab→Prop}{ts:List (Nat×I)}{os:List (Nat×ah)}(hK:∀ B,J c x Q B→K B)(h:J c x Q (aq (gY L ts) os)):bj P Y dr K (.done (aq ts os)) :=
 .done (hK _ (J.fN L h))
theorem cd.aw(L:List Nat){P:Program}{hs:List FuncId}{x:aO}{K:ab→Prop}{ts:List (Nat×I)}{os:List (Nat×ah)}(hK:∀ B,J c x Q B→K B)(h:J c x Q (aq (gY L ts) os)):cd P hs K (.done (aq ts os)) :=
 .done (hK _ (J.fN L h))
end
end Go.Abs
